/- Of my texts: CalcG, Of, RefA, RefB. -/
import Derived.Test.YtplnhjmomomphaaDoorM24
import Derived.Test.YtplnhjmomomphaaDoorM27
import Derived.OwnWalk
namespace Go.Proofs.YtplnhjmomomphaaDoor
set_option linter.unusedVariables false
set_option linter.unusedSimpArgs false
open Go.RowKit

/-- what Parse gives: an expression and a number -/
def retP (A : Nat → Prop) (r : Option Et × Int) (e : Ending) (w : World) : Prop := ∃ v, e = .returned (.tuple #[v, .int .i64 r.2]) ∧ isEx A (r.1.getD zeroEt) v w
theorem zero_ex (A : Nat → Prop) (w : World) : isEx A zeroEt (.agg #[.int .i64 0, .int .i64 0, .int .i64 0, .int .i64 0, .slice none 0 0]) w :=
  ⟨.mk 0 0 0 0 none 0 0 0 [], 1, rfl, rfl, ExIn.leaf (i64_small _ (by decide)) (by unfold Is64; decide) (i64_small _ (by decide))⟩

set_option maxRecDepth 20000 in
set_option maxHeartbeats 2000000 in
theorem cparse_any (h : Nat) (l : List Vl) (oa : Option Addr) (cap b o : Nat) (w : World) (hs : VsIn w h oa cap b o l) :
    Calls Tryd.prog 9 #[.slice oa l.length cap] w fun e w' => retP (· < w.heap.size) (parseF wholeP h (l.map Vl.c)) e w' ∧ Below w.heap.size w w' := by
  have hX := (calc_all h).2
  obtain ⟨Y, hY⟩ : ∃ Y, parseF wholeP h (l.map Vl.c) = Y := ⟨_, rfl⟩
  rw [hY]
  have hb0 := below_box w (.cells #[.int .i64 0, .int .i64 0, .int .i64 0, .int .i64 0, .slice none 0 0] 27)
  have h2 := Blk.new w 27 #[.int .i64 0, .int .i64 0, .int .i64 0, .int .i64 0, .slice none 0 0]
  have hs1 := hs.below hb0
  have hmay := mayvr_any h l oa cap b o _ hs1
  have htr := fun w' (hb : Below _ _ w') => rtrim_any h l oa cap b o w' (hs1.below hb)
  have hw01 : (w.alloc (.cells #[.int .i64 0, .int .i64 0, .int .i64 0, .int .i64 0, .slice none 0 0] 27)).heap.size = w.heap.size + 1 := by simp
  obtain ⟨X, hXX⟩ : ∃ X, l.map Vl.c = X := ⟨_, rfl⟩
  obtain ⟨N, hN⟩ : ∃ N, l.length = N := ⟨_, rfl⟩
  rw [hXX] at hmay hY
  rw [hN] at hmay
  rw [hN]
  simp only [hXX, hN] at htr
  have HY := Lib.hid hY
  have HMAY := Lib.hid hmay
  have HTR := Lib.hid htr
  have HB0 := Lib.hid hb0
  have H2 := Lib.hid h2
  have HW01 := Lib.hid hw01
  obtain ⟨m, hm⟩ : ∃ m, mayV 64 X = m := ⟨_, rfl⟩
  rw [hm] at HMAY
  have HM := Lib.hid hm
  clear hY hmay htr hb0 h2 hw01 hXX hN hs hs1 hm
  go_enter Tryd.func9, Tryd.ntmps9
  go_upto_region 1 with fail
  obtain ⟨g2, hg2⟩ : ∃ g2, w.heap.size = g2 := ⟨_, rfl⟩
  have HG := Lib.hid hg2
  rw [hg2] at H2
  simp only [hg2]
  clear hg2
  generalize w.alloc _ = w1 at *
  go_wp2_with fail
  ((with_reducible refine HMAY.out.mono ?_); rintro e w2 ⟨rfl, hb2⟩)
  have hb12 := hb2.size
  have H22 := Lib.hid (H2.out.below hb2 H2.out.lt)
  have HB2 := Lib.hid (below_far HB0.out (grownBy_of_below hb2 none) (fun _ e => by cases e))
  have HT2 := Lib.hid (HTR.out w2 hb2)
  have HWG := Lib.hid (show w.heap.size ≤ g2 by have := HG.out; omega)
  clear hb2 HTR HMAY HB0
  have ca0 : w2.cell? ⟨g2, 0, none⟩ = some (.int .i64 0) := (H22.out).cell 0
  have fca0 := (H22.out).frozen 0
  have ca1 : w2.cell? ⟨g2, 1, none⟩ = some (.int .i64 0) := (H22.out).cell 1
  have fca1 := (H22.out).frozen 1
  have ca2 : w2.cell? ⟨g2, 2, none⟩ = some (.int .i64 0) := (H22.out).cell 2
  have fca2 := (H22.out).frozen 2
  have ca3 : w2.cell? ⟨g2, 3, none⟩ = some (.int .i64 0) := (H22.out).cell 3
  have fca3 := (H22.out).frozen 3
  have ca4 : w2.cell? ⟨g2, 4, none⟩ = some (.slice none 0 0) := (H22.out).cell 4
  have fca4 := (H22.out).frozen 4
  have lca := (H22.out).lt
  cases m with
  | false =>
    have hYk : Y = (none, 1) := by rw [← HY.out, parseF, if_pos HM.out]
    go_wp2_with fail
    have hputs := (H22.out).put5 (.int .i64 0) (.int .i64 0) (.int .i64 0) (.int .i64 0) (.slice none 0 0)
    refine bodyPost_ret (v := .tuple #[.agg #[.int .i64 0, .int .i64 0, .int .i64 0, .int .i64 0, .slice none 0 0], .int .i64 1]) ?_ rfl ?_
    · refine ret_ex2 Tryd.results9 ?_ ?_ hputs rfl
      all_goals rfl
    · exact ⟨⟨_, by first | rfl | rw [hYk], by first | exact zero_ex _ _ | (rw [hYk]; exact zero_ex _ _)⟩, below_put5 HB2.out HWG.out _ _ _ _ _⟩
  | true =>
    have hY2 : Y = match trimV X with
        | [v] => (match exF wholeP h v with
          | none => (none, 3)
          | some e => (some e, 0))
        | _ => (none, 3) := by
      rw [← HY.out, parseF, if_neg (by rw [HM.out]; decide)]
      rfl
    have HY2 := Lib.hid hY2
    clear hY2 HY
    go_wp2_with fail
    ((with_reducible refine HT2.out.mono ?_); rintro e w3 ⟨⟨v, rfl, oa2, cap2, b2, o2, l2, rfl, hc2, hs2⟩, hb3⟩)
    have H23 := Lib.hid (H22.out.below hb3 H22.out.lt)
    have HB3 := Lib.hid (below_far HB2.out (grownBy_of_below hb3 none) (fun _ e => by cases e))
    have hb23 := hb3.size
    have hcm2 := hs2.here.sl.max
    have hcl2 := hs2.here.sl.le
    unfold maxLen at hcm2
    clear hb3 HT2 H22 HB2 ca0 ca1 ca2 ca3 ca4 fca0 fca1 fca2 fca3 fca4 lca
    have ca0 : w3.cell? ⟨g2, 0, none⟩ = some (.int .i64 0) := (H23.out).cell 0
    have fca0 := (H23.out).frozen 0
    have ca1 : w3.cell? ⟨g2, 1, none⟩ = some (.int .i64 0) := (H23.out).cell 1
    have fca1 := (H23.out).frozen 1
    have ca2 : w3.cell? ⟨g2, 2, none⟩ = some (.int .i64 0) := (H23.out).cell 2
    have fca2 := (H23.out).frozen 2
    have ca3 : w3.cell? ⟨g2, 3, none⟩ = some (.int .i64 0) := (H23.out).cell 3
    have fca3 := (H23.out).frozen 3
    have ca4 : w3.cell? ⟨g2, 4, none⟩ = some (.slice none 0 0) := (H23.out).cell 4
    have fca4 := (H23.out).frozen 4
    have lca := (H23.out).lt
    by_cases hl1 : l2.length = 1
    · obtain ⟨x, rfl⟩ := List.length_eq_one_iff.1 hl1
      obtain ⟨rfl, hbl⟩ := hs2.here.sl.lies (by simp)
      have hli : [x][0]? = some x := rfl
      have hvs := hs2.here
      have HVX := Lib.hid (hs2.here.each 0 x hli)
      have hxp := hX x w3 (hs2.here.each 0 x hli)
      have hYx : Y = match exF wholeP h x.c with
          | none => (none, 3)
          | some e => (some e, 0) := by rw [HY2.out, ← hc2]; rfl
      obtain ⟨r, hr⟩ : ∃ r, exF wholeP h x.c = r := ⟨_, rfl⟩
      rw [hr] at hxp hYx
      obtain ⟨t, koa, kb, ko, kcap, kids⟩ := x
      obtain ⟨K, hK⟩ : ∃ K, kids.length = K := ⟨_, rfl⟩
      have f0 := hvs.cell hli (j := 0) rfl
      have f1 := hvs.cell hli (j := 1) rfl
      have f2 := hvs.cell hli (j := 2) rfl
      have f3 := hvs.cell hli (j := 3) rfl
      have f4 := hvs.cell hli (j := 4) rfl
      have f5 := hvs.cell hli (j := 5) rfl
      have f6 := hvs.cell hli (j := 6) rfl
      rw [hK] at f6
      simp only [Nat.zero_mul, Nat.add_zero] at f0 f1 f2 f3 f4 f5 f6
      obtain ⟨tk, tt, ⟨tn, td⟩, ti, tid⟩ := t
      have hvv : vv (Vl.mk ⟨tk, tt, (tn, td), ti, tid⟩ koa kb ko kcap kids) = .agg #[.int .i64 tk, .string ⟨tt.toArray⟩, .int .i64 tn, .int .i64 td, .bool ti, .bool tid, .slice koa K kcap] := by rw [← hK]; rfl
      rw [hvv] at hxp
      have HXP := Lib.hid hxp
      have HYX := Lib.hid hYx
      simp only [List.length_singleton] at hcl2 ⊢
      clear hvv hxp hYx hK hvs hli hr hs2 hc2 hX HY2 hl1
      go_wp2_with fail
      ((with_reducible refine HXP.out.mono ?_); rintro e w4 ⟨⟨ev, ok, rfl, hok, h5, hE⟩, hb4⟩)
      obtain ⟨vk, vn, vd, vu, voa, vL, vc, rfl⟩ := h5
      have HE := Lib.hid (And.intro hok hE)
      have H24 := Lib.hid (H23.out.below hb4 H23.out.lt)
      have hbB := below_far HB3.out (grownBy_of_below hb4 none) (fun _ e => by cases e)
      have hw34 := hb4.size
      clear hok hE hb4 H23 HB3 ca0 ca1 ca2 ca3 ca4 fca0 fca1 fca2 fca3 fca4 lca f0 f1 f2 f3 f4 f5 f6 HXP
      go_upto_region 7 with fail
      have h25 := H24.out.old (.cells #[.int .i64 vk, .int .i64 vn, .int .i64 vd, .int .i64 vu, .slice voa vL vc] 27)
      have h55 := Blk.new w4 27 #[.int .i64 vk, .int .i64 vn, .int .i64 vd, .int .i64 vu, .slice voa vL vc]
      have HB4 := Lib.hid (hbB.alloc (by have := hbB.size; omega) (.cells #[.int .i64 vk, .int .i64 vn, .int .i64 vd, .int .i64 vu, .slice voa vL vc] 27))
      have HE5 := Lib.hid (And.intro HE.out.1 (fun E hE => (HE.out.2 E hE).below (below_box w4 (.cells #[.int .i64 vk, .int .i64 vn, .int .i64 vd, .int .i64 vu, .slice voa vL vc] 27))))
      clear H24 hbB HE
      generalize w4.heap.size = g5 at *
      generalize w4.alloc _ = w5 at *
      have cb0 : w5.cell? ⟨g5, 0, none⟩ = some (.int .i64 vk) := (h55).cell 0
      have fcb0 := (h55).frozen 0
      have cb1 : w5.cell? ⟨g5, 1, none⟩ = some (.int .i64 vn) := (h55).cell 1
      have fcb1 := (h55).frozen 1
      have cb2 : w5.cell? ⟨g5, 2, none⟩ = some (.int .i64 vd) := (h55).cell 2
      have fcb2 := (h55).frozen 2
      have cb3 : w5.cell? ⟨g5, 3, none⟩ = some (.int .i64 vu) := (h55).cell 3
      have fcb3 := (h55).frozen 3
      have cb4 : w5.cell? ⟨g5, 4, none⟩ = some (.slice voa vL vc) := (h55).cell 4
      have fcb4 := (h55).frozen 4
      have lcb := (h55).lt
      have ca0 : w5.cell? ⟨g2, 0, none⟩ = some (.int .i64 0) := (h25).cell 0
      have fca0 := (h25).frozen 0
      have ca1 : w5.cell? ⟨g2, 1, none⟩ = some (.int .i64 0) := (h25).cell 1
      have fca1 := (h25).frozen 1
      have ca2 : w5.cell? ⟨g2, 2, none⟩ = some (.int .i64 0) := (h25).cell 2
      have fca2 := (h25).frozen 2
      have ca3 : w5.cell? ⟨g2, 3, none⟩ = some (.int .i64 0) := (h25).cell 3
      have fca3 := (h25).frozen 3
      have ca4 : w5.cell? ⟨g2, 4, none⟩ = some (.slice none 0 0) := (h25).cell 4
      have fca4 := (h25).frozen 4
      have lca := (h25).lt
      have H25 := Lib.hid h25
      clear h25 h55
      have hg2w := H2.out.lt
      cases r with
      | none =>
        obtain rfl : ok = false := HE5.out.1
        have hYk : Y = (none, 3) := HYX.out
        go_wp2_with fail
        have hputs := (H25.out).put5 (.int .i64 0) (.int .i64 0) (.int .i64 0) (.int .i64 0) (.slice none 0 0)
        refine bodyPost_ret (v := .tuple #[.agg #[.int .i64 0, .int .i64 0, .int .i64 0, .int .i64 0, .slice none 0 0], .int .i64 3]) ?_ rfl ?_
        · refine ret_ex2 Tryd.results9 ?_ ?_ hputs rfl
          all_goals rfl
        · exact ⟨⟨_, by first | rfl | rw [hYk], by first | exact zero_ex _ _ | (rw [hYk]; exact zero_ex _ _)⟩, below_put5 HB4.out HWG.out _ _ _ _ _⟩
      | some E =>
        obtain rfl : ok = true := HE5.out.1
        have hYk : Y = (some E, 0) := HYX.out
        have hee := ((HE5.out.2 E rfl).grown (grownBy_puts [.int .i64 vk, .int .i64 vn, .int .i64 vd, .int .i64 vu, .slice voa vL vc] w5 g2 0) (fun k e _ => by have e : g2 = k := Option.some.inj e; show k < w3.heap.size; omega)).anti (A' := (· < w.heap.size)) fun b hb => Or.inl (by have := HWG.out; have hb : b < w.heap.size := hb; show b < w3.heap.size; omega)
        simp only [puts, Nat.zero_add, Nat.reduceAdd] at hee
        go_wp2_with fail
        have hputs := (H25.out).put5 (.int .i64 vk) (.int .i64 vn) (.int .i64 vd) (.int .i64 vu) (.slice voa vL vc)
        refine bodyPost_ret (v := .tuple #[.agg #[.int .i64 vk, .int .i64 vn, .int .i64 vd, .int .i64 vu, .slice voa vL vc], .int .i64 0]) ?_ rfl ?_
        · refine ret_ex2 Tryd.results9 ?_ ?_ hputs rfl
          all_goals rfl
        · exact ⟨⟨_, by first | rfl | rw [hYk], by first | exact hee | (rw [hYk]; exact hee)⟩, below_put5 HB4.out HWG.out _ _ _ _ _⟩
    · have q1 : ((l2.length : Int) == 1) = false := beq_eq_false_iff_ne.2 (by omega)
      have hYk : Y = (none, 3) := by
        rw [HY2.out, ← hc2]
        match l2, hl1 with
        | [], _ => rfl
        | [x], h => exact absurd rfl h
        | x :: y :: l, _ => rfl
      generalize l2.length = N2 at *
      have HB4 := HB3
      go_wp2_with fail
      have hputs := (H23.out).put5 (.int .i64 0) (.int .i64 0) (.int .i64 0) (.int .i64 0) (.slice none 0 0)
      refine bodyPost_ret (v := .tuple #[.agg #[.int .i64 0, .int .i64 0, .int .i64 0, .int .i64 0, .slice none 0 0], .int .i64 3]) ?_ rfl ?_
      · refine ret_ex2 Tryd.results9 ?_ ?_ hputs rfl
        all_goals rfl
      · exact ⟨⟨_, by first | rfl | rw [hYk], by first | exact zero_ex _ _ | (rw [hYk]; exact zero_ex _ _)⟩, below_put5 HB4.out HWG.out _ _ _ _ _⟩

end Go.Proofs.YtplnhjmomomphaaDoor

namespace Go.Proofs.YtplnhjmomomphaaDoor
set_option linter.unusedVariables false
set_option linter.unusedSimpArgs false
open Go.RowKit Go.Lib

theorem conv_bytes (m : List UInt8) (w : World) (hm : m.length ≤ maxLen) : ∃ (cap : Nat) (w1 : World), (convert 9 34 (.string ⟨m.toArray⟩)).run Tryd.prog w = .ok (.slice (some ⟨w.heap.size, 0, none⟩) m.length cap) w1 ∧ Below w.heap.size w w1 ∧
    Sl w1 (some ⟨w.heap.size, 0, none⟩) m.length cap w.heap.size 0 1 (bytesV m) := by
  have h := run_bytes_of_string (P := Tryd.prog) w 9 34 5 ⟨m.toArray⟩ Tryd.underlying9 Tryd.underlying34 Tryd.underlying5
  have hge := grownCap_ge w m.length 0 5
  have hcm := grownCap_le_maxLen w m.length 0 5 hm
  refine ⟨_, _, h, ((Below.refl _ _).drew.alloc (Nat.le_refl _) _), by simp [bytesV], hge, hcm, fun _ => ⟨rfl, by simp⟩, fun i v hv => ?_⟩
  have hi : i < m.length := by have := (List.getElem?_eq_some_iff.1 hv).1; simpa [bytesV] using this
  rw [bytesV_at hi] at hv
  obtain rfl := Option.some.inj hv
  rw [Nat.zero_add, cell_of_row _ w.heap.size i _ _ _ (heap_alloc_new w.drew _)]
  exact bytesRow_at ⟨m.toArray⟩ _ i hi

set_option maxHeartbeats 4000000 in
theorem ofs_any (m : List UInt8) (w : World) (hm : m.length ≤ 262144) (hK : Kd w) (h64 : ∀ t ∈ bytesF m, Tk64 t) (hl : (bytesF m).length ≤ 274877906944) :
    Calls Tryd.prog 29 #[.string ⟨m.toArray⟩] w fun e w' => (∃ v, e = .returned v ∧ ∃ h, isVs (· < w.heap.size) h (valuesF (bytesF m)) v w') ∧ Below w.heap.size w w' := by
  obtain ⟨cap, w1, hrun, hb1, hsl⟩ := conv_bytes m w (by unfold maxLen; omega)
  have HB := Lib.hid (bytes_any m _ cap w.heap.size 0 w1 hsl (hK.below hb1) hm)
  have HV := Lib.hid (fun oa c b o w hs => values_any (bytesF m) oa c b o w hs h64 hl)
  have HB1 := Lib.hid hb1
  generalize bytesF m = T at *
  clear h64 hl hb1 hsl hK
  have hm63 : m.length ≤ 9223372036854775807 := by omega
  go_enter Tryd.func29, Tryd.ntmps29
  go_wp2_with fail
  ((with_reducible refine HB.out.mono ?_); rintro e w2 ⟨v, rfl, hR⟩)
  obtain ⟨ya, yc, yb, rfl, hsl, _⟩ := hR.sl
  have HB2 := Lib.hid (below_far HB1.out (grownBy_of_below hR.below none) (fun _ e => by cases e))
  have HV2 := Lib.hid (HV.out ya yc yb 0 w2 hsl)
  clear hR hsl HB HV
  go_wp2_with fail
  ((with_reducible refine HV2.out.mono ?_); rintro e w3 ⟨⟨v, rfl, h, hv⟩, hb3⟩)
  have HBF := Lib.hid (below_far HB2.out (grownBy_of_below hb3 none) (fun _ e => by cases e))
  have HVV := Lib.hid (hv.anti (A' := (· < w.heap.size)) fun b hb => Or.inl (by have := HB2.out.size; have hb : b < w.heap.size := hb; show b < w2.heap.size; omega))
  clear hv hb3 HV2
  go_wp2_with fail
  go_ret
  exact ⟨⟨_, rfl, h, HVV.out⟩, HBF.out⟩

/-- what every program must know -/
theorem calc_known (n : Nat) : parseF wholeP (n + 2) calcV = (some (.mk 2 0 0 0 [.mk 1 1 1 1 [], .mk 1 2 1 2 []]), 0) := by
  have c1 : cleanR (1, 1) = (1, 1) := by decide
  have c2 : cleanR (2, 1) = (2, 1) := by decide
  have h1 : mayV 64 calcV = true := by
    unfold calcV
    simp [mayV, closeF]
  have ht : trimV calcV = calcV := by rfl
  rw [parseF, if_neg (by rw [h1]; decide), ht]
  have u1 : unitF [112, 120] = 1 := by decide
  have u2 : unitF [101, 109] = 2 := by decide
  have e1 : opF wholeP (n + 1) (.mk ⟨12, [112, 120], (1, 1), true, false⟩ []) = some (.mk 1 1 1 1 []) := by
    simp [opF, exprF, u1, numE, c1]
  have e2 : opF wholeP (n + 1) (.mk ⟨12, [101, 109], (2, 1), true, false⟩ []) = some (.mk 1 2 1 2 []) := by
    simp [opF, exprF, u2, numE, c2]
  simp only [calcV, exF]
  have hl : lowS [99, 97, 108, 99] = calcS := by decide
  rw [exprF, if_neg (by decide), if_neg (by decide), if_pos rfl, if_pos hl]
  generalize opF wholeP (n + 1) = f at *
  have hw : wholeP f [.mk ⟨12, [112, 120], (1, 1), true, false⟩ [], .mk ⟨13, [], (0, 0), false, false⟩ [], .mk ⟨9, [43], (0, 0), false, false⟩ [], .mk ⟨13, [], (0, 0), false, false⟩ [], .mk ⟨12, [101, 109], (2, 1), true, false⟩ []] = some (.mk 2 0 0 0 [.mk 1 1 1 1 [], .mk 1 2 1 2 []]) := by
    simp [wholeP, trimV, frontV, spV, sumP, prodP, opAt, restP, signP, blankP, plusS, minusS, starS, slashS, single, e1, e2]
  rw [hw]
theorem two_of {α : Type} {l : List α} (h : l.length = 2) : ∃ a b, l = [a, b] := by
  match l, h with
  | [a, b], _ => exact ⟨a, b, rfl⟩
theorem calcV_one {l : List Vl} (hc : l.map Vl.c = calcV) : ∃ t oa b o c kids, l = [.mk t oa b o c kids] ∧ kids ≠ [] := by
  have h1 := congrArg List.length hc
  rw [List.length_map] at h1
  obtain ⟨x, rfl⟩ := List.length_eq_one_iff.1 (h1.trans rfl)
  obtain ⟨t, oa, b, o, c, kids⟩ := x
  refine ⟨t, oa, b, o, c, kids, rfl, ?_⟩
  rintro rfl
  unfold calcV at hc
  rw [List.map_cons, List.map_nil, Vl.c_mk] at hc
  injection hc with hc _
  injection hc with _ hc
  cases hc
theorem calc_high {h : Nat} {w : World} {oa : Option Addr} {cap b o : Nat} {l : List Vl} (hs : VsIn w h oa cap b o l) (hc : l.map Vl.c = calcV) : ∃ n, h = n + 2 := by
  obtain ⟨t, oa', b', o', c', kids, rfl, hk⟩ := calcV_one hc
  have h0 := hs.each 0 _ rfl
  obtain _ | h := h
  · exact h0.elim
  obtain _ | h := h
  · have hk2 := h0.kids
    match kids, hk with
    | [], hk => exact absurd rfl hk
    | x :: r, _ => exact (hk2.each 0 x rfl).elim
  · exact ⟨h, rfl⟩
theorem calc_64 : ∀ t ∈ bytesF calcT, Tk64 t := by
  rw [calc_tokens]
  intro t ht
  simp only [List.mem_cons, List.not_mem_nil, or_false] at ht
  rcases ht with rfl | rfl | rfl | rfl | rfl | rfl | rfl <;> (unfold Tk64 I64 Is64; decide)

set_option maxRecDepth 20000 in
set_option maxHeartbeats 4000000 in
theorem awakeK_any (w : World) (hK : Kd w) : Calls Tryd.prog 12 #[] w fun e w' => e = .returned (.bool true) ∧ Below w.heap.size w w' := by
  have hof := ofs_any calcT w (by decide) hK calc_64 (by rw [calc_tokens]; decide)
  rw [calc_values, show calcT.toArray = #[99, 97, 108, 99, 40, 49, 112, 120, 32, 43, 32, 50, 101, 109, 41] from rfl] at hof
  have HOF := Lib.hid hof
  clear hof hK
  go_enter Tryd.func12, Tryd.ntmps12
  go_wp2_with fail
  ((with_reducible refine HOF.out.mono ?_); rintro e w2 ⟨⟨v, rfl, h, oa, cap, b, o, l, rfl, hc, hs⟩, hb2⟩)
  obtain ⟨n, rfl⟩ := calc_high hs.here hc
  have hp := cparse_any (n + 2) l oa cap b o w2 hs.here
  rw [hc, calc_known] at hp
  have HP := Lib.hid hp
  have HB2 := Lib.hid hb2
  clear hp hs hc hb2 HOF
  go_wp2_with fail
  ((with_reducible refine HP.out.mono ?_); rintro e w3 ⟨⟨ev, rfl, x, hh, hxv, hxc, hxs⟩, hb3⟩)
  obtain ⟨k, n', d, u, xoa, xb, xo, xcap, kids⟩ := x
  rw [Ex.c_mk] at hxc
  injection hxc with ek en ed eu el
  obtain _ | hh := hh
  · exact hxs.here.elim
  obtain ⟨y1, y2, y3, y4, y5, y6, y7, y8⟩ := hxs.here
  have hkl := congrArg List.length el
  rw [List.length_map] at hkl
  obtain ⟨p, q, rfl⟩ := two_of (hkl.trans rfl)
  rw [List.map_cons, List.map_cons, List.map_nil] at el
  injection el with _ el
  injection el with el _
  obtain ⟨y71, hbl⟩ := y7 (by simp)
  obtain ⟨qk, qn, qd, qu, qoa, qb, qo, qcap, qkids⟩ := q
  rw [Ex.c_mk] at el
  injection el with _ _ _ equ _
  have f3 := (y8 1 _ rfl).1 3 _ rfl
  subst ek en ed eu equ y71 hxv
  simp only [xv_mk, List.length_cons, List.length_nil, Nat.zero_add, Nat.reduceAdd] at y4 ⊢
  have HB3 := Lib.hid (below_far HB2.out (grownBy_of_below hb3 none) (fun _ e => by cases e))
  have F3 := Lib.hid f3
  clear hxs y1 y2 y3 y5 y6 y7 y8 hb3 HP HB2
  go_upto_region 2 with fail
  have h9 := Blk.new w3 27 #[.int .i64 2, .int .i64 0, .int .i64 0, .int .i64 0, .slice (some ⟨xb, xo, none⟩) 2 xcap]
  have hb4 := below_box w3 (.cells #[.int .i64 2, .int .i64 0, .int .i64 0, .int .i64 0, .slice (some ⟨xb, xo, none⟩) 2 xcap] 27)
  have g3 := (hb4.cell (p := ⟨xb, xo + 1 * 5 + 3, none⟩) hbl).trans F3.out
  have HB4 := Lib.hid (below_far HB3.out (grownBy_of_below hb4 none) (fun _ e => by cases e))
  clear hb4 F3 HB3
  generalize w3.heap.size = g9 at *
  generalize w3.alloc _ = w4 at *
  have cg0 : w4.cell? ⟨g9, 0, none⟩ = some (.int .i64 2) := (h9).cell 0
  have fcg0 := (h9).frozen 0
  have cg1 : w4.cell? ⟨g9, 1, none⟩ = some (.int .i64 0) := (h9).cell 1
  have fcg1 := (h9).frozen 1
  have cg2 : w4.cell? ⟨g9, 2, none⟩ = some (.int .i64 0) := (h9).cell 2
  have fcg2 := (h9).frozen 2
  have cg3 : w4.cell? ⟨g9, 3, none⟩ = some (.int .i64 0) := (h9).cell 3
  have fcg3 := (h9).frozen 3
  have cg4 : w4.cell? ⟨g9, 4, none⟩ = some (.slice (some ⟨xb, xo, none⟩) 2 xcap) := (h9).cell 4
  have fcg4 := (h9).frozen 4
  have lcg := (h9).lt
  clear h9
  go_wp2_with fail
  go_ret
  exact ⟨ret_bool rfl, HB4.out⟩

end Go.Proofs.YtplnhjmomomphaaDoor

namespace Go.Proofs.YtplnhjmomomphaaDoor
set_option linter.unusedVariables false
set_option linter.unusedSimpArgs false
open Go.RowKit

theorem r11space_any (tk tn td : Int) (tt : List UInt8) (ti tid : Bool) (koa : Option Addr) (K kcap : Nat) (w : World) :
    Calls Tryd.prog 65 #[.agg #[.int .i64 tk, .string ⟨tt.toArray⟩, .int .i64 tn, .int .i64 td, .bool ti, .bool tid, .slice koa K kcap]] w fun e w' => e = .returned (.bool (tk == 13)) ∧ Below w.heap.size w w' := by
  go_enter Tryd.func65, Tryd.ntmps65
  go_wp2_with fail
  go_ret
  exact ⟨rfl, below_box _ _⟩

set_option maxHeartbeats 2000000 in
theorem r11is_any (tk tn td k : Int) (tt s : List UInt8) (ti tid : Bool) (koa : Option Addr) (K kcap : Nat) (w : World) (ht : tt.length ≤ 9223372036854775807) (hs : s.length ≤ 9223372036854775807) :
    Calls Tryd.prog 50 #[.agg #[.int .i64 tk, .string ⟨tt.toArray⟩, .int .i64 tn, .int .i64 td, .bool ti, .bool tid, .slice koa K kcap], .int .i64 k, .string ⟨s.toArray⟩] w fun e w' => e = .returned (.bool (tk == k && likeS tt s)) ∧ Below w.heap.size w w' := by
  have HL := Lib.hid (fun w => like63_any tt s w ht hs)
  generalize likeS tt s = b at *
  clear ht hs
  by_cases hk : tk = k
  · subst hk
    rw [show (tk == tk) = true from beq_iff_eq.2 rfl, Bool.true_and]
    go_enter Tryd.func50, Tryd.ntmps50
    go_wp2_with fail
    ((with_reducible refine (HL.out _).mono ?_); rintro e w2 ⟨rfl, hb2⟩)
    have hb := below_far (below_box w (.cells #[.int .i64 tk, .string ⟨tt.toArray⟩, .int .i64 tn, .int .i64 td, .bool ti, .bool tid, .slice koa K kcap] 53)) (grownBy_of_below hb2 none) (fun _ e => by cases e)
    clear hb2
    go_wp2_with fail
    go_ret
    exact ⟨rfl, hb⟩
  · have q : (tk == k) = false := beq_eq_false_iff_ne.2 hk
    rw [q, Bool.false_and]
    go_enter Tryd.func50, Tryd.ntmps50
    go_wp2_with fail
    go_ret
    exact ⟨rfl, below_box _ _⟩

set_option maxHeartbeats 2000000 in
theorem r11sign_any (tk tn td : Int) (tt a b : List UInt8) (ti tid : Bool) (koa : Option Addr) (K kcap : Nat) (w : World) :
    Calls Tryd.prog 64 #[.agg #[.int .i64 tk, .string ⟨tt.toArray⟩, .int .i64 tn, .int .i64 td, .bool ti, .bool tid, .slice koa K kcap], .string ⟨a.toArray⟩, .string ⟨b.toArray⟩] w fun e w' => e = .returned (.bool (tk == 9 && (tt == a || tt == b))) ∧ Below w.heap.size w w' := by
  by_cases hk : tk = 9
  · subst hk
    by_cases ha : tt = a
    · have q : (tt == a) = true := beq_iff_eq.2 ha
      rw [q]
      go_enter Tryd.func64, Tryd.ntmps64
      go_wp2_with fail
      go_ret
      exact ⟨rfl, below_box _ _⟩
    · have q : (tt == a) = false := beq_eq_false_iff_ne.2 ha
      rw [q]
      go_enter Tryd.func64, Tryd.ntmps64
      go_wp2_with fail
      go_ret
      exact ⟨by simp, below_box _ _⟩
  · have q : (tk == 9) = false := beq_eq_false_iff_ne.2 hk
    rw [q, Bool.false_and]
    go_enter Tryd.func64, Tryd.ntmps64
    go_wp2_with fail
    go_ret
    exact ⟨rfl, below_box _ _⟩

end Go.Proofs.YtplnhjmomomphaaDoor

namespace Go.Proofs.YtplnhjmomomphaaDoor
set_option linter.unusedVariables false
set_option linter.unusedSimpArgs false
open Go.RowKit

/-- the reference's sums; one value -/
def RSumAt (h : Nat) : Prop := ∀ (l : List Vl) (oa : Option Addr) (cap b o : Nat) (w : World), VsIn w h oa cap b o l →
  Calls Tryd.prog 51 #[.slice oa l.length cap] w fun e w' => retE (· < w.heap.size) (sumR (opF sumR h) (l.map Vl.c)) e w' ∧ Below w.heap.size w w'
def ROneAt (h : Nat) : Prop := ∀ (v : Vl) (w : World), VlIn w h v →
  Calls Tryd.prog 28 #[vv v] w fun e w' => retE (· < w.heap.size) (exF sumR h v.c) e w' ∧ Below w.heap.size w w'

set_option maxRecDepth 20000 in
set_option maxHeartbeats 2000000 in
theorem rparse_step (h : Nat) (hX : ROneAt h) (l : List Vl) (oa : Option Addr) (cap b o : Nat) (w : World) (hs : VsIn w h oa cap b o l) :
    Calls Tryd.prog 10 #[.slice oa l.length cap] w fun e w' => retP (· < w.heap.size) (parseF sumR h (l.map Vl.c)) e w' ∧ Below w.heap.size w w' := by
  obtain ⟨Y, hY⟩ : ∃ Y, parseF sumR h (l.map Vl.c) = Y := ⟨_, rfl⟩
  rw [hY]
  have hb0 := below_box w (.cells #[.int .i64 0, .int .i64 0, .int .i64 0, .int .i64 0, .slice none 0 0] 27)
  have h2 := Blk.new w 27 #[.int .i64 0, .int .i64 0, .int .i64 0, .int .i64 0, .slice none 0 0]
  have hs1 := hs.below hb0
  have hmay := mayv5_any h l oa cap b o _ hs1
  have htr := fun w' (hb : Below _ _ w') => trim5_safe h l oa cap b o w' (hs1.below hb).safe
  have hw01 : (w.alloc (.cells #[.int .i64 0, .int .i64 0, .int .i64 0, .int .i64 0, .slice none 0 0] 27)).heap.size = w.heap.size + 1 := by simp
  obtain ⟨X, hXX⟩ : ∃ X, l.map Vl.c = X := ⟨_, rfl⟩
  obtain ⟨N, hN⟩ : ∃ N, l.length = N := ⟨_, rfl⟩
  rw [hXX] at hmay hY
  rw [hN] at hmay
  rw [hN]
  simp only [hXX, hN] at htr
  have HY := Lib.hid hY
  have HMAY := Lib.hid hmay
  have HTR := Lib.hid htr
  have HB0 := Lib.hid hb0
  have H2 := Lib.hid h2
  have HW01 := Lib.hid hw01
  obtain ⟨m, hm⟩ : ∃ m, mayV 64 X = m := ⟨_, rfl⟩
  rw [hm] at HMAY
  have HM := Lib.hid hm
  clear hY hmay htr hb0 h2 hw01 hXX hN hs hs1 hm
  go_enter Tryd.func10, Tryd.ntmps10
  go_upto_region 1 with fail
  obtain ⟨g2, hg2⟩ : ∃ g2, w.heap.size = g2 := ⟨_, rfl⟩
  have HG := Lib.hid hg2
  rw [hg2] at H2
  simp only [hg2]
  clear hg2
  generalize w.alloc _ = w1 at *
  go_wp2_with fail
  ((with_reducible refine HMAY.out.mono ?_); rintro e w2 ⟨rfl, hb2⟩)
  have hb12 := hb2.size
  have H22 := Lib.hid (H2.out.below hb2 H2.out.lt)
  have HB2 := Lib.hid (below_far HB0.out (grownBy_of_below hb2 none) (fun _ e => by cases e))
  have HT2 := Lib.hid (HTR.out w2 hb2)
  have HWG := Lib.hid (show w.heap.size ≤ g2 by have := HG.out; omega)
  clear hb2 HTR HMAY HB0
  have ca0 : w2.cell? ⟨g2, 0, none⟩ = some (.int .i64 0) := (H22.out).cell 0
  have fca0 := (H22.out).frozen 0
  have ca1 : w2.cell? ⟨g2, 1, none⟩ = some (.int .i64 0) := (H22.out).cell 1
  have fca1 := (H22.out).frozen 1
  have ca2 : w2.cell? ⟨g2, 2, none⟩ = some (.int .i64 0) := (H22.out).cell 2
  have fca2 := (H22.out).frozen 2
  have ca3 : w2.cell? ⟨g2, 3, none⟩ = some (.int .i64 0) := (H22.out).cell 3
  have fca3 := (H22.out).frozen 3
  have ca4 : w2.cell? ⟨g2, 4, none⟩ = some (.slice none 0 0) := (H22.out).cell 4
  have fca4 := (H22.out).frozen 4
  have lca := (H22.out).lt
  cases m with
  | false =>
    have hYk : Y = (none, 1) := by rw [← HY.out, parseF, if_pos HM.out]
    go_wp2_with fail
    have hputs := (H22.out).put5 (.int .i64 0) (.int .i64 0) (.int .i64 0) (.int .i64 0) (.slice none 0 0)
    refine bodyPost_ret (v := .tuple #[.agg #[.int .i64 0, .int .i64 0, .int .i64 0, .int .i64 0, .slice none 0 0], .int .i64 1]) ?_ rfl ?_
    · refine ret_ex2 Tryd.results10 ?_ ?_ hputs rfl
      all_goals rfl
    · exact ⟨⟨_, by first | rfl | rw [hYk], by first | exact zero_ex _ _ | (rw [hYk]; exact zero_ex _ _)⟩, below_put5 HB2.out HWG.out _ _ _ _ _⟩
  | true =>
    have hY2 : Y = match trimV X with
        | [v] => (match exF sumR h v with
          | none => (none, 3)
          | some e => (some e, 0))
        | _ => (none, 3) := by
      rw [← HY.out, parseF, if_neg (by rw [HM.out]; decide)]
      rfl
    have HY2 := Lib.hid hY2
    clear hY2 HY
    go_wp2_with fail
    ((with_reducible refine HT2.out.mono ?_); rintro e w3 ⟨⟨v, rfl, oa2, cap2, b2, o2, l2, rfl, hc2, hs2⟩, hb3⟩)
    have H23 := Lib.hid (H22.out.below hb3 H22.out.lt)
    have HB3 := Lib.hid (below_far HB2.out (grownBy_of_below hb3 none) (fun _ e => by cases e))
    have hb23 := hb3.size
    have hcm2 := hs2.here.sl.max
    have hcl2 := hs2.here.sl.le
    unfold maxLen at hcm2
    clear hb3 HT2 H22 HB2 ca0 ca1 ca2 ca3 ca4 fca0 fca1 fca2 fca3 fca4 lca
    have ca0 : w3.cell? ⟨g2, 0, none⟩ = some (.int .i64 0) := (H23.out).cell 0
    have fca0 := (H23.out).frozen 0
    have ca1 : w3.cell? ⟨g2, 1, none⟩ = some (.int .i64 0) := (H23.out).cell 1
    have fca1 := (H23.out).frozen 1
    have ca2 : w3.cell? ⟨g2, 2, none⟩ = some (.int .i64 0) := (H23.out).cell 2
    have fca2 := (H23.out).frozen 2
    have ca3 : w3.cell? ⟨g2, 3, none⟩ = some (.int .i64 0) := (H23.out).cell 3
    have fca3 := (H23.out).frozen 3
    have ca4 : w3.cell? ⟨g2, 4, none⟩ = some (.slice none 0 0) := (H23.out).cell 4
    have fca4 := (H23.out).frozen 4
    have lca := (H23.out).lt
    by_cases hl1 : l2.length = 1
    · obtain ⟨x, rfl⟩ := List.length_eq_one_iff.1 hl1
      obtain ⟨rfl, hbl⟩ := hs2.here.sl.lies (by simp)
      have hli : [x][0]? = some x := rfl
      have hvs := hs2.here
      have HVX := Lib.hid (hs2.here.each 0 x hli)
      have hxp := hX x w3 (hs2.here.each 0 x hli)
      have hYx : Y = match exF sumR h x.c with
          | none => (none, 3)
          | some e => (some e, 0) := by rw [HY2.out, ← hc2]; rfl
      obtain ⟨r, hr⟩ : ∃ r, exF sumR h x.c = r := ⟨_, rfl⟩
      rw [hr] at hxp hYx
      obtain ⟨t, koa, kb, ko, kcap, kids⟩ := x
      obtain ⟨K, hK⟩ : ∃ K, kids.length = K := ⟨_, rfl⟩
      have f0 := hvs.cell hli (j := 0) rfl
      have f1 := hvs.cell hli (j := 1) rfl
      have f2 := hvs.cell hli (j := 2) rfl
      have f3 := hvs.cell hli (j := 3) rfl
      have f4 := hvs.cell hli (j := 4) rfl
      have f5 := hvs.cell hli (j := 5) rfl
      have f6 := hvs.cell hli (j := 6) rfl
      rw [hK] at f6
      simp only [Nat.zero_mul, Nat.add_zero] at f0 f1 f2 f3 f4 f5 f6
      obtain ⟨tk, tt, ⟨tn, td⟩, ti, tid⟩ := t
      have hvv : vv (Vl.mk ⟨tk, tt, (tn, td), ti, tid⟩ koa kb ko kcap kids) = .agg #[.int .i64 tk, .string ⟨tt.toArray⟩, .int .i64 tn, .int .i64 td, .bool ti, .bool tid, .slice koa K kcap] := by rw [← hK]; rfl
      rw [hvv] at hxp
      have HXP := Lib.hid hxp
      have HYX := Lib.hid hYx
      simp only [List.length_singleton] at hcl2 ⊢
      clear hvv hxp hYx hK hvs hli hr hs2 hc2 hX HY2 hl1
      go_wp2_with fail
      ((with_reducible refine HXP.out.mono ?_); rintro e w4 ⟨⟨ev, ok, rfl, hok, h5, hE⟩, hb4⟩)
      obtain ⟨vk, vn, vd, vu, voa, vL, vc, rfl⟩ := h5
      have HE := Lib.hid (And.intro hok hE)
      have H24 := Lib.hid (H23.out.below hb4 H23.out.lt)
      have hbB := below_far HB3.out (grownBy_of_below hb4 none) (fun _ e => by cases e)
      have hw34 := hb4.size
      clear hok hE hb4 H23 HB3 ca0 ca1 ca2 ca3 ca4 fca0 fca1 fca2 fca3 fca4 lca f0 f1 f2 f3 f4 f5 f6 HXP
      go_upto_region 7 with fail
      have h25 := H24.out.old (.cells #[.int .i64 vk, .int .i64 vn, .int .i64 vd, .int .i64 vu, .slice voa vL vc] 27)
      have h55 := Blk.new w4 27 #[.int .i64 vk, .int .i64 vn, .int .i64 vd, .int .i64 vu, .slice voa vL vc]
      have HB4 := Lib.hid (hbB.alloc (by have := hbB.size; omega) (.cells #[.int .i64 vk, .int .i64 vn, .int .i64 vd, .int .i64 vu, .slice voa vL vc] 27))
      have HE5 := Lib.hid (And.intro HE.out.1 (fun E hE => (HE.out.2 E hE).below (below_box w4 (.cells #[.int .i64 vk, .int .i64 vn, .int .i64 vd, .int .i64 vu, .slice voa vL vc] 27))))
      clear H24 hbB HE
      generalize w4.heap.size = g5 at *
      generalize w4.alloc _ = w5 at *
      have cb0 : w5.cell? ⟨g5, 0, none⟩ = some (.int .i64 vk) := (h55).cell 0
      have fcb0 := (h55).frozen 0
      have cb1 : w5.cell? ⟨g5, 1, none⟩ = some (.int .i64 vn) := (h55).cell 1
      have fcb1 := (h55).frozen 1
      have cb2 : w5.cell? ⟨g5, 2, none⟩ = some (.int .i64 vd) := (h55).cell 2
      have fcb2 := (h55).frozen 2
      have cb3 : w5.cell? ⟨g5, 3, none⟩ = some (.int .i64 vu) := (h55).cell 3
      have fcb3 := (h55).frozen 3
      have cb4 : w5.cell? ⟨g5, 4, none⟩ = some (.slice voa vL vc) := (h55).cell 4
      have fcb4 := (h55).frozen 4
      have lcb := (h55).lt
      have ca0 : w5.cell? ⟨g2, 0, none⟩ = some (.int .i64 0) := (h25).cell 0
      have fca0 := (h25).frozen 0
      have ca1 : w5.cell? ⟨g2, 1, none⟩ = some (.int .i64 0) := (h25).cell 1
      have fca1 := (h25).frozen 1
      have ca2 : w5.cell? ⟨g2, 2, none⟩ = some (.int .i64 0) := (h25).cell 2
      have fca2 := (h25).frozen 2
      have ca3 : w5.cell? ⟨g2, 3, none⟩ = some (.int .i64 0) := (h25).cell 3
      have fca3 := (h25).frozen 3
      have ca4 : w5.cell? ⟨g2, 4, none⟩ = some (.slice none 0 0) := (h25).cell 4
      have fca4 := (h25).frozen 4
      have lca := (h25).lt
      have H25 := Lib.hid h25
      clear h25 h55
      have hg2w := H2.out.lt
      cases r with
      | none =>
        obtain rfl : ok = false := HE5.out.1
        have hYk : Y = (none, 3) := HYX.out
        go_wp2_with fail
        have hputs := (H25.out).put5 (.int .i64 0) (.int .i64 0) (.int .i64 0) (.int .i64 0) (.slice none 0 0)
        refine bodyPost_ret (v := .tuple #[.agg #[.int .i64 0, .int .i64 0, .int .i64 0, .int .i64 0, .slice none 0 0], .int .i64 3]) ?_ rfl ?_
        · refine ret_ex2 Tryd.results10 ?_ ?_ hputs rfl
          all_goals rfl
        · exact ⟨⟨_, by first | rfl | rw [hYk], by first | exact zero_ex _ _ | (rw [hYk]; exact zero_ex _ _)⟩, below_put5 HB4.out HWG.out _ _ _ _ _⟩
      | some E =>
        obtain rfl : ok = true := HE5.out.1
        have hYk : Y = (some E, 0) := HYX.out
        have hee := ((HE5.out.2 E rfl).grown (grownBy_puts [.int .i64 vk, .int .i64 vn, .int .i64 vd, .int .i64 vu, .slice voa vL vc] w5 g2 0) (fun k e _ => by have e : g2 = k := Option.some.inj e; show k < w3.heap.size; omega)).anti (A' := (· < w.heap.size)) fun b hb => Or.inl (by have := HWG.out; have hb : b < w.heap.size := hb; show b < w3.heap.size; omega)
        simp only [puts, Nat.zero_add, Nat.reduceAdd] at hee
        go_wp2_with fail
        have hputs := (H25.out).put5 (.int .i64 vk) (.int .i64 vn) (.int .i64 vd) (.int .i64 vu) (.slice voa vL vc)
        refine bodyPost_ret (v := .tuple #[.agg #[.int .i64 vk, .int .i64 vn, .int .i64 vd, .int .i64 vu, .slice voa vL vc], .int .i64 0]) ?_ rfl ?_
        · refine ret_ex2 Tryd.results10 ?_ ?_ hputs rfl
          all_goals rfl
        · exact ⟨⟨_, by first | rfl | rw [hYk], by first | exact hee | (rw [hYk]; exact hee)⟩, below_put5 HB4.out HWG.out _ _ _ _ _⟩
    · have q1 : ((l2.length : Int) == 1) = false := beq_eq_false_iff_ne.2 (by omega)
      have hYk : Y = (none, 3) := by
        rw [HY2.out, ← hc2]
        match l2, hl1 with
        | [], _ => rfl
        | [x], h => exact absurd rfl h
        | x :: y :: l, _ => rfl
      generalize l2.length = N2 at *
      have HB4 := HB3
      go_wp2_with fail
      have hputs := (H23.out).put5 (.int .i64 0) (.int .i64 0) (.int .i64 0) (.int .i64 0) (.slice none 0 0)
      refine bodyPost_ret (v := .tuple #[.agg #[.int .i64 0, .int .i64 0, .int .i64 0, .int .i64 0, .slice none 0 0], .int .i64 3]) ?_ rfl ?_
      · refine ret_ex2 Tryd.results10 ?_ ?_ hputs rfl
        all_goals rfl
      · exact ⟨⟨_, by first | rfl | rw [hYk], by first | exact zero_ex _ _ | (rw [hYk]; exact zero_ex _ _)⟩, below_put5 HB4.out HWG.out _ _ _ _ _⟩

end Go.Proofs.YtplnhjmomomphaaDoor
