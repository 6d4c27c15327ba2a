/- Of my texts: CalcC. -/
import Derived.Test.YtplnhjmomomphaaDoorM26
namespace Go.Proofs.YtplnhjmomomphaaDoor
set_option linter.unusedVariables false
set_option linter.unusedSimpArgs false
open Go.RowKit

/-- all of some values, read as an expression -/
def WholeAt (h : Nat) : Prop := ∀ (l : List Vl) (oa : Option Addr) (cap b o : Nat) (w : World), VsIn w h oa cap b o l →
  Calls Tryd.prog 45 #[.slice oa l.length cap] w fun e w' => retE (· < w.heap.size) (wholeP (opF wholeP h) (l.map Vl.c)) e w' ∧ Below w.heap.size w w'
/-- one value, read as an expression -/
def ExprAt (h : Nat) : Prop := ∀ (v : Vl) (w : World), VlIn w h v →
  Calls Tryd.prog 25 #[vv v] w fun e w' => retE (· < w.heap.size) (exF wholeP h v.c) e w' ∧ Below w.heap.size w w'
/-- an operand of the reader -/
def OperAt (h : Nat) : Prop := ∀ (R : Nat) (oa : Option Addr) (cap b o : Nat) (l : List Vl) (i : Nat) (w : World), Rd (· = R) w R h oa cap b o l i →
  Calls Tryd.prog 96 #[.pointer (some ⟨R, 0, none⟩)] w fun e w' => retE (· < w.heap.size) (opAt (opF wholeP h) (l.map Vl.c) i) e w' ∧ ∃ j, Mv w w' R oa l.length cap j ∧ j ≤ l.length ∧ (i < l.length → j = i + 1)

theorem mv_far {w w0 w' : World} {R L cap j : Nat} {oa : Option Addr} (hb : Below w.heap.size w w0) (h : Mv w0 w' R oa L cap j) : Mv w w' R oa L cap j := ⟨grownBy_trans (grownBy_of_below hb _) h.gb, h.blk⟩

theorem Mv.far {w w' w2 : World} {R L cap i : Nat} {oa : Option Addr} {row : Option Nat} (h1 : Mv w w' R oa L cap i) (hg : w'.grownBy w2 row) (hr : ∀ k, row = some k → w.heap.size ≤ k) (hR : R < w.heap.size) : Mv w w2 R oa L cap i :=
  ⟨grownBy_far h1.gb hg hr, (hg.block R h1.blk.lt (fun e => by have := hr R e.symm; omega)).trans h1.blk⟩
theorem Blk.put7 {w : World} {g : Nat} {t : TypeId} {a0 a1 a2 a3 a4 a5 a6 : Value} (h : Blk w g t #[a0, a1, a2, a3, a4, a5, a6]) (x0 x1 x2 x3 x4 x5 x6 : Value) :
    Blk (((((((w.setCell ⟨g, 0, none⟩ x0).setCell ⟨g, 1, none⟩ x1).setCell ⟨g, 2, none⟩ x2).setCell ⟨g, 3, none⟩ x3).setCell ⟨g, 4, none⟩ x4).setCell ⟨g, 5, none⟩ x5).setCell ⟨g, 6, none⟩ x6) g t #[x0, x1, x2, x3, x4, x5, x6] := by
  have h1 := ((((((h.put 0 x0).put 1 x1).put 2 x2).put 3 x3).put 4 x4).put 5 x5).put 6 x6
  simpa using h1
theorem zeroX_ret (A : Nat → Prop) (w : World) : retE A none (.returned (.tuple #[.agg #[.int .i64 0, .int .i64 0, .int .i64 0, .int .i64 0, .slice none 0 0], .bool false])) w := ⟨_, _, rfl, rfl, ⟨0, 0, 0, 0, none, 0, 0, rfl⟩, fun E h => by cases h⟩

set_option maxRecDepth 20000 in
set_option maxHeartbeats 8000000 in
theorem oper_step (h : Nat) (hW : ∀ h', h = h' + 1 → WholeAt h') (hX : ExprAt h) : OperAt h := by
  intro R oa cap b o l i w hr
  obtain ⟨XL, hXL⟩ : ∃ XL, l.map Vl.c = XL := ⟨_, rfl⟩
  obtain ⟨N, hN⟩ : ∃ N, l.length = N := ⟨_, rfl⟩
  have hNX : XL.length = N := by rw [← hXL, List.length_map, hN]
  have hsm := hr.vs.here.small
  have hcl := hr.vs.here.sl.le
  have hcm := hr.vs.here.sl.max
  have hiN := hr.pos
  unfold maxLen at hcm
  rw [hN] at hsm hcl hiN
  rw [hXL, hN]
  obtain ⟨Y, hY⟩ : ∃ Y, opAt (opF wholeP h) XL i = Y := ⟨_, rfl⟩
  rw [hY]
  have HN := Lib.hid (And.intro hN (And.intro hXL hNX))
  have HWX := Lib.hid (And.intro hW hX)
  have HR := Lib.hid hr
  have HY := Lib.hid hY
  -- the result's variable
  have hb0 := below_box w (.cells #[.int .i64 0, .int .i64 0, .int .i64 0, .int .i64 0, .slice none 0 0] 27)
  have h2 := Blk.new w 27 #[.int .i64 0, .int .i64 0, .int .i64 0, .int .i64 0, .slice none 0 0]
  have HR1 := Lib.hid (hr.below hb0)
  have HB0 := Lib.hid hb0
  have H2 := Lib.hid h2
  have hRlt := hr.blk.lt
  clear hr hb0 h2 hN hXL hNX hW hX hY
  go_enter Tryd.func96, Tryd.ntmps96
  go_upto_region 1 with fail
  obtain ⟨g2, hg2⟩ : ∃ g2, w.heap.size = g2 := ⟨_, rfl⟩
  have HG := Lib.hid hg2
  rw [hg2] at H2 hRlt
  simp only [hg2]
  clear hg2
  generalize w.alloc _ = w1 at *
  have k0 := HR1.out.blk.cell 0
  have k1 := HR1.out.blk.cell 1
  have kl := HR1.out.blk.lt
  simp only [List.getElem?_toArray, List.getElem?_cons_zero, List.getElem?_cons_succ] at k0 k1
  rw [HN.out.1] at k0
  have hne : g2 ≠ R := by omega
  refine wp_region_grow (by kernel_rfl) (by kernel_rfl) ?_
  repeat (go_big_quiet_step (fail))
  refine wpQuiet_nil ?_
  rintro _ ⟨m, rfl⟩
  have hr2 := Lib.hid (HR1.out.below (grow_below m))
  have hb2 := Lib.hid (below_grow HB0.out m)
  have h22 := Lib.hid (H2.out.grow m)
  clear k0 k1 kl HR1 HB0 H2
  generalize grow _ m = w2 at *
  by_cases hi : i < N
  · have gi : decide ((N : Int) ≤ (i : Int)) = false := by simp; omega
    have gin : decide (N ≤ i) = false := by simp; omega
    have ij0 : (0 : Int) ≤ (i : Int) := Int.natCast_nonneg _
    have ijN : (i : Int) < (N : Int) := by omega
    have hil : i < l.length := by rw [HN.out.1]; exact hi
    have hli : l[i]? = some l[i] := List.getElem?_eq_getElem hil
    have hvs := hr2.out.vs.here
    obtain ⟨rfl, hbl2⟩ := hvs.sl.lies (by omega)
    obtain ⟨x, hx⟩ : ∃ x, l[i] = x := ⟨_, rfl⟩
    rw [hx] at hli
    have hxl : XL[i]? = some x.c := by rw [← HN.out.2.1, List.getElem?_map, hli]; rfl
    have hYx : opF wholeP h x.c = Y := by
      have := HY.out
      unfold opAt at this
      rw [hxl] at this
      exact this
    have hvx := hvs.each i x hli
    obtain ⟨h, rfl⟩ : ∃ h', h = h' + 1 := by
      cases h with
      | zero => exact hvx.elim
      | succ h => exact ⟨h, rfl⟩
    have HVX := Lib.hid (hr2.out.vs.mono fun _ hw => hw.each i x hli)
    have HXP := Lib.hid (fun wz (hz : VlIn wz (h + 1) x) => HWX.out.2 x wz hz)
    obtain ⟨t, koa, kb, ko, kcap, kids⟩ := x
    have HWP := Lib.hid (fun wz (hz : VsIn wz h koa kcap kb ko kids) => HWX.out.1 h rfl kids koa kcap kb ko wz hz)
    obtain ⟨K, hK⟩ : ∃ K, kids.length = K := ⟨_, rfl⟩
    have f0 := hvs.cell hli (j := 0) rfl
    have f1 := hvs.cell hli (j := 1) rfl
    have f2 := hvs.cell hli (j := 2) rfl
    have f3 := hvs.cell hli (j := 3) rfl
    have f4 := hvs.cell hli (j := 4) rfl
    have f5 := hvs.cell hli (j := 5) rfl
    have f6 := hvs.cell hli (j := 6) rfl
    rw [Nat.add_zero] at f0
    rw [hK] at f6
    obtain ⟨tk, tt, ⟨tn, td⟩, ti, tid⟩ := t
    have hYx2 := hYx
    rw [Vl.c_mk, opF] at hYx2
    have HYX := Lib.hid (And.intro hYx2 hK)
    clear hvs hli hil hx hxl hvx hYx hYx2 hK HWX HY
    have k0 := hr2.out.blk.cell 0
    have k1 := hr2.out.blk.cell 1
    have kl := hr2.out.blk.lt
    simp only [List.getElem?_toArray, List.getElem?_cons_zero, List.getElem?_cons_succ] at k0 k1
    rw [HN.out.1] at k0
    go_wp2_with fail
    refine wp_region_loose 11 [Loose.claim 1 17 (.pointer (some ⟨R, 0, none⟩)), Loose.claim 5 21 (.pointer (some ⟨R, 0, none⟩)), Loose.cells 10 4 53 #[.int .i64 0, .string ⟨#[]⟩, .int .i64 0, .int .i64 0, .bool false, .bool false, .slice none 0 0] w2.heap.size] (by kernel_rfl) rfl (by kernel_rfl) (by kernel_rfl) (by kernel_rfl) (by kernel_rfl) ?_
    simp only [headL, hushL, List.find?, Loose.claim_i, Loose.cells_i, Loose.rowL_i, Loose.claim_hush, Loose.cells_hush, Loose.rowL_hush, Nat.reduceBEq, Nat.reduceAdd]
    repeat (go_big_quiet_step (fail))
    refine wpQuiet_nil ⟨fun V m2 => ?_, fun V m2 => ?_⟩
    · simp only [obs_cons, obs_nil, List.getElem?_cons_zero, List.getElem?_cons_succ, fill_nil, fill_claim, fill_cells, fill_rowL, Loose.claim_i, Loose.cells_i, Loose.rowL_i, Act.put, List.setIfInBounds_toArray, List.set_cons_zero, List.set_cons_succ]
      refine ⟨fun _ => ?_, fun _ => ?_, fun _ => ?_, trivial⟩
      · go_wp2_with fail
        exact post_claim rfl (Below.refl _ _)
      · go_wp2_with fail
        exact post_claim rfl (Below.refl _ _)
      · go_wp2_with fail
        exact post_cells rfl (grow_size m2)
    · simp only [laws_nil, laws_claim, laws_cells, laws_rowL, dist_nil, dist_claim, dist_cells, dist_rowL, dist1_nil, dist1_claim, dist1_cells, dist1_rowL, dist1_cells_rowL, dist1_rowL_cells, List.drop_succ_cons, List.drop_zero, and_true, fill_nil, fill_claim, fill_cells, fill_rowL, Loose.claim_i, Loose.cells_i, Loose.rowL_i, Act.put, List.setIfInBounds_toArray, List.set_cons_zero, List.set_cons_succ]
      rintro ⟨g4, hv10, hg4, hbk⟩ _
      rw [hv10]
      clear hv10
      have hbw0 := grow_below m2
      have hR2 := hr2.out.blk.lt
      have hg22 := h22.out.lt
      generalize grow w2 m2 = w3 at *
      have cb0 : w3.cell? ⟨g4, 0, none⟩ = some (.int .i64 0) := (hbk).cell 0
      have fcb0 := (hbk).frozen 0
      have cb1 : w3.cell? ⟨g4, 1, none⟩ = some (.string ⟨#[]⟩) := (hbk).cell 1
      have fcb1 := (hbk).frozen 1
      have cb2 : w3.cell? ⟨g4, 2, none⟩ = some (.int .i64 0) := (hbk).cell 2
      have fcb2 := (hbk).frozen 2
      have cb3 : w3.cell? ⟨g4, 3, none⟩ = some (.int .i64 0) := (hbk).cell 3
      have fcb3 := (hbk).frozen 3
      have cb4 : w3.cell? ⟨g4, 4, none⟩ = some (.bool false) := (hbk).cell 4
      have fcb4 := (hbk).frozen 4
      have cb5 : w3.cell? ⟨g4, 5, none⟩ = some (.bool false) := (hbk).cell 5
      have fcb5 := (hbk).frozen 5
      have cb6 : w3.cell? ⟨g4, 6, none⟩ = some (.slice none 0 0) := (hbk).cell 6
      have fcb6 := (hbk).frozen 6
      have lcb := (hbk).lt
      go_upto_region 4 with fail
      have hbw := Lib.hid (show Below w2.heap.size w2 (((((((w3.setCell ⟨g4, 0, none⟩ (.int .i64 tk)).setCell ⟨g4, 1, none⟩ (.string ⟨tt.toArray⟩)).setCell ⟨g4, 2, none⟩ (.int .i64 tn)).setCell ⟨g4, 3, none⟩ (.int .i64 td)).setCell ⟨g4, 4, none⟩ (.bool ti)).setCell ⟨g4, 5, none⟩ (.bool tid)).setCell ⟨g4, 6, none⟩ (.slice koa K kcap)) from
        ((((((hbw0.setCell (p := ⟨g4, 0, none⟩) hg4 _).setCell (p := ⟨g4, 1, none⟩) hg4 _).setCell (p := ⟨g4, 2, none⟩) hg4 _).setCell (p := ⟨g4, 3, none⟩) hg4 _).setCell (p := ⟨g4, 4, none⟩) hg4 _).setCell (p := ⟨g4, 5, none⟩) hg4 _).setCell (p := ⟨g4, 6, none⟩) hg4 _)
      have hbx := Lib.hid (hbk.put7 (.int .i64 tk) (.string ⟨tt.toArray⟩) (.int .i64 tn) (.int .i64 td) (.bool ti) (.bool tid) (.slice koa K kcap))
      clear cb0 cb1 cb2 cb3 cb4 cb5 cb6 fcb0 fcb1 fcb2 fcb3 fcb4 fcb5 fcb6 lcb hbk hbw0 f0 f1 f2 f3 f4 f5 f6 k0 k1 kl
      generalize World.setCell _ _ _ = w4 at *
      have hr4 := Lib.hid (hr2.out.below hbw.out)
      have h24 := Lib.hid (h22.out.below hbw.out h22.out.lt)
      have hm4 := Lib.hid (mv_far hb2.out (by have := (Mv.refl hr2.out).below hbw.out; rw [HN.out.1] at this; exact this))
      have hv4 := Lib.hid (HVX.out.below hbw.out)
      have k0 := hr4.out.blk.cell 0
      have k1 := hr4.out.blk.cell 1
      have q1 := hr4.out.blk.frozen 1
      have kl := hr4.out.blk.lt
      simp only [List.getElem?_toArray, List.getElem?_cons_zero, List.getElem?_cons_succ] at k0 k1
      go_upto_region 5 with fail
      have hRw : R < w.heap.size := by have := HG.out; omega
      have hm5 := Lib.hid (show Mv w (w4.setCell ⟨R, 1, none⟩ (.int .i64 ((i + 1 : Nat) : Int))) R (some ⟨b, o, none⟩) N cap (i + 1) from hm4.out.set (i + 1))
      have h25 := Lib.hid (show Blk (w4.setCell ⟨R, 1, none⟩ (.int .i64 ((i + 1 : Nat) : Int))) g2 27 #[.int .i64 0, .int .i64 0, .int .i64 0, .int .i64 0, .slice none 0 0] from h24.out.far (p := ⟨R, 1, none⟩) hne _)
      have hb5 := Lib.hid (show Blk (w4.setCell ⟨R, 1, none⟩ (.int .i64 ((i + 1 : Nat) : Int))) g4 53 #[.int .i64 tk, .string ⟨tt.toArray⟩, .int .i64 tn, .int .i64 td, .bool ti, .bool tid, .slice koa K kcap] from hbx.out.far (p := ⟨R, 1, none⟩) (by simp; omega) _)
      have hv5 := Lib.hid (show Safe (· = R) (w4.setCell ⟨R, 1, none⟩ (.int .i64 ((i + 1 : Nat) : Int))) (fun w => VlIn w (h + 1) (.mk ⟨tk, tt, (tn, td), ti, tid⟩ koa kb ko kcap kids)) from hv4.out.set (p := ⟨R, 1, none⟩) rfl _)
      rw [show ((i + 1 : Nat) : Int) = (i : Int) + 1 by omega] at hm5 h25 hb5 hv5
      clear k0 k1 q1 kl hm4 h24 hbx hv4 hr4
      generalize World.setCell _ _ _ = w5 at *
      have cb0 : w5.cell? ⟨g4, 0, none⟩ = some (.int .i64 tk) := (hb5.out).cell 0
      have fcb0 := (hb5.out).frozen 0
      have cb1 : w5.cell? ⟨g4, 1, none⟩ = some (.string ⟨tt.toArray⟩) := (hb5.out).cell 1
      have fcb1 := (hb5.out).frozen 1
      have cb2 : w5.cell? ⟨g4, 2, none⟩ = some (.int .i64 tn) := (hb5.out).cell 2
      have fcb2 := (hb5.out).frozen 2
      have cb3 : w5.cell? ⟨g4, 3, none⟩ = some (.int .i64 td) := (hb5.out).cell 3
      have fcb3 := (hb5.out).frozen 3
      have cb4 : w5.cell? ⟨g4, 4, none⟩ = some (.bool ti) := (hb5.out).cell 4
      have fcb4 := (hb5.out).frozen 4
      have cb5 : w5.cell? ⟨g4, 5, none⟩ = some (.bool tid) := (hb5.out).cell 5
      have fcb5 := (hb5.out).frozen 5
      have cb6 : w5.cell? ⟨g4, 6, none⟩ = some (.slice koa K kcap) := (hb5.out).cell 6
      have fcb6 := (hb5.out).frozen 6
      have lcb := (hb5.out).lt
      have hlt2 := h25.out.lt
      have HFIN := Lib.hid (show ∀ (v : Value) (ok : Bool) (w6 w7 : World), ok = Y.isSome → isE5 v → (∀ E, Y = some E → isEx (· < w5.heap.size) E v w6) → Below w5.heap.size w5 w6 → w6.grownBy w7 (some g2) → retE (· < w.heap.size) Y (.returned (.tuple #[v, .bool ok])) w7 ∧ ∃ j, Mv w w7 R (some ⟨b, o, none⟩) N cap j ∧ j ≤ N ∧ (i < N → j = i + 1) from
        fun v ok w6 w7 h1 h2 h3 h4 h5 => ⟨⟨v, ok, rfl, h1, h2, fun E hE => ((h3 E hE).grown h5 (fun k e _ => by injection e with e; omega)).anti fun b hb => Or.inl (by have := hm5.out.gb.size; omega)⟩,
          i + 1, (hm5.out.below h4).far h5 (fun k e => by injection e with e; have := HG.out; omega) hRw, hi, fun _ => rfl⟩)
      by_cases hk : tk = 21
      · have hYk : wholeP (opF wholeP h) (kids.map Vl.c) = Y := by
          have := HYX.out.1
          rw [if_pos hk] at this
          exact this
        have hwc := HWP.out w5 hv5.out.here.kids
        rw [HYX.out.2, hYk] at hwc
        have HC := Lib.hid hwc
        subst hk
        clear hwc hYk
        go_wp2_with fail
        ((with_reducible refine HC.out.mono ?_); rintro e w6 ⟨⟨v, ok, rfl, hok, h5, hE⟩, hbb⟩)
        obtain ⟨vk, vn, vd, vu, voa, vL, vc, rfl⟩ := h5
        have h26 := h25.out.below hbb h25.out.lt
        have cc0 : w6.cell? ⟨g2, 0, none⟩ = some (.int .i64 0) := (h26).cell 0
        have fcc0 := (h26).frozen 0
        have cc1 : w6.cell? ⟨g2, 1, none⟩ = some (.int .i64 0) := (h26).cell 1
        have fcc1 := (h26).frozen 1
        have cc2 : w6.cell? ⟨g2, 2, none⟩ = some (.int .i64 0) := (h26).cell 2
        have fcc2 := (h26).frozen 2
        have cc3 : w6.cell? ⟨g2, 3, none⟩ = some (.int .i64 0) := (h26).cell 3
        have fcc3 := (h26).frozen 3
        have cc4 : w6.cell? ⟨g2, 4, none⟩ = some (.slice none 0 0) := (h26).cell 4
        have fcc4 := (h26).frozen 4
        have lcc := (h26).lt
        have HE := Lib.hid (And.intro hok (And.intro hE hbb))
        have H26 := Lib.hid h26
        clear h26 hok hE hbb cb0 cb1 cb2 cb3 cb4 cb5 cb6 fcb0 fcb1 fcb2 fcb3 fcb4 fcb5 fcb6 lcb
        go_wp2_with fail
        have hputs := (H26.out).put5 (.int .i64 vk) (.int .i64 vn) (.int .i64 vd) (.int .i64 vu) (.slice voa vL vc)
        refine bodyPost_ret (v := .tuple #[.agg #[.int .i64 vk, .int .i64 vn, .int .i64 vd, .int .i64 vu, .slice voa vL vc], .bool ok]) ?_ rfl ?_
        · refine ret_ex2 Tryd.results96 ?_ ?_ hputs rfl
          all_goals rfl
        · exact HFIN.out _ _ w6 _ HE.out.1 ⟨_, _, _, _, _, _, _, rfl⟩ HE.out.2.1 HE.out.2.2 (grownBy_puts [.int .i64 vk, .int .i64 vn, .int .i64 vd, .int .i64 vu, .slice voa vL vc] w6 g2 0)
      · have gk : (tk == (21 : Int)) = false := by simpa using hk
        have hYk : exF wholeP (h + 1) (Vl.mk ⟨tk, tt, (tn, td), ti, tid⟩ koa kb ko kcap kids).c = Y := by
          have := HYX.out.1
          rw [if_neg hk] at this
          rw [Vl.c_mk, exF]
          exact this
        have hwc := HXP.out w5 hv5.out.here
        rw [hYk] at hwc
        have hvv : vv (Vl.mk ⟨tk, tt, (tn, td), ti, tid⟩ koa kb ko kcap kids) = .agg #[.int .i64 tk, .string ⟨tt.toArray⟩, .int .i64 tn, .int .i64 td, .bool ti, .bool tid, .slice koa K kcap] := by rw [← HYX.out.2]; rfl
        rw [hvv] at hwc
        have HC := Lib.hid hwc
        clear hwc hYk hvv hk
        go_wp2_with fail
        ((with_reducible refine HC.out.mono ?_); rintro e w6 ⟨⟨v, ok, rfl, hok, h5, hE⟩, hbb⟩)
        obtain ⟨vk, vn, vd, vu, voa, vL, vc, rfl⟩ := h5
        have h26 := h25.out.below hbb h25.out.lt
        have cc0 : w6.cell? ⟨g2, 0, none⟩ = some (.int .i64 0) := (h26).cell 0
        have fcc0 := (h26).frozen 0
        have cc1 : w6.cell? ⟨g2, 1, none⟩ = some (.int .i64 0) := (h26).cell 1
        have fcc1 := (h26).frozen 1
        have cc2 : w6.cell? ⟨g2, 2, none⟩ = some (.int .i64 0) := (h26).cell 2
        have fcc2 := (h26).frozen 2
        have cc3 : w6.cell? ⟨g2, 3, none⟩ = some (.int .i64 0) := (h26).cell 3
        have fcc3 := (h26).frozen 3
        have cc4 : w6.cell? ⟨g2, 4, none⟩ = some (.slice none 0 0) := (h26).cell 4
        have fcc4 := (h26).frozen 4
        have lcc := (h26).lt
        have HE := Lib.hid (And.intro hok (And.intro hE hbb))
        have H26 := Lib.hid h26
        clear h26 hok hE hbb cb0 cb1 cb2 cb3 cb4 cb5 cb6 fcb0 fcb1 fcb2 fcb3 fcb4 fcb5 fcb6 lcb
        go_wp2_with fail
        have hputs := (H26.out).put5 (.int .i64 vk) (.int .i64 vn) (.int .i64 vd) (.int .i64 vu) (.slice voa vL vc)
        refine bodyPost_ret (v := .tuple #[.agg #[.int .i64 vk, .int .i64 vn, .int .i64 vd, .int .i64 vu, .slice voa vL vc], .bool ok]) ?_ rfl ?_
        · refine ret_ex2 Tryd.results96 ?_ ?_ hputs rfl
          all_goals rfl
        · exact HFIN.out _ _ w6 _ HE.out.1 ⟨_, _, _, _, _, _, _, rfl⟩ HE.out.2.1 HE.out.2.2 (grownBy_puts [.int .i64 vk, .int .i64 vn, .int .i64 vd, .int .i64 vu, .slice voa vL vc] w6 g2 0)
  · have gi : decide ((N : Int) ≤ (i : Int)) = true := by simp; omega
    have gin : decide (N ≤ i) = true := by simp; omega
    have hY0 : Y = none := by
      rw [← HY.out]
      unfold opAt
      rw [List.getElem?_eq_none (by rw [HN.out.2.2]; omega)]
    subst hY0
    have c0 := h22.out.cell 0
    have hmv := Lib.hid (mv_far hb2.out (by have := Mv.refl hr2.out; rw [HN.out.1] at this; exact this))
    have c0 := h22.out.cell 0
    have c1 := h22.out.cell 1
    have c2 := h22.out.cell 2
    have c3 := h22.out.cell 3
    have c4 := h22.out.cell 4
    have d0 := h22.out.frozen 0
    have d1 := h22.out.frozen 1
    have d2 := h22.out.frozen 2
    have d3 := h22.out.frozen 3
    have d4 := h22.out.frozen 4
    have dl := h22.out.lt
    simp only [List.getElem?_toArray, List.getElem?_cons_zero, List.getElem?_cons_succ] at c0 c1 c2 c3 c4
    go_wp2_with fail
    have hputs := (h22.out).put5 (.int .i64 0) (.int .i64 0) (.int .i64 0) (.int .i64 0) (.slice none 0 0)
    refine bodyPost_ret (v := .tuple #[.agg #[.int .i64 0, .int .i64 0, .int .i64 0, .int .i64 0, .slice none 0 0], .bool false]) ?_ rfl ?_
    · refine ret_ex2 Tryd.results96 ?_ ?_ hputs rfl
      all_goals rfl
    · exact ⟨zeroX_ret _ _, i, hmv.out.far (grownBy_puts [.int .i64 0, .int .i64 0, .int .i64 0, .int .i64 0, .slice none 0 0] w2 g2 0) (fun k e => by have := HG.out; injection e with e; omega) (by have := HG.out; omega), hiN, fun h => absurd h hi⟩

end Go.Proofs.YtplnhjmomomphaaDoor
