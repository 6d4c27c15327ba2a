/- Which of two is greater, in the reference. -/
import Derived.Test.YtgjhaanpkfheeaaRatE
import Derived.Test.YtgjhaanpkfheeaaRatD
import Derived.Test.YtgjhaanpkfheeaaLooseB
namespace Go.Proofs.Ytgjhaanpkfheeaa
set_option linter.unusedVariables false
set_option linter.unusedSimpArgs false
open Go.RowKit

set_option maxHeartbeats 1000000 in
theorem is_any (r : Rt) (w : World) (h64 : Is64 r) :
    Calls Try.prog 69 #[rv r] w fun e w' => e = .returned (.bool (sureB r)) ∧ Below w.heap.size w w' := by
  have hs := fun w => rmay_any r w h64
  have hd := fun h => sureB_den (r := r) h
  obtain ⟨n, d⟩ := r
  unfold mayB at hs
  simp only at hs hd
  cases c : sureB (n, d) with
  | true =>
    rw [c, Bool.or_true] at hs
    have g1 : decide ((0:Int) < d) = true := by have := hd c; simp; omega
    have HS := Lib.hid hs
    clear hs hd
    go_enter Try.func69, Try.ntmps69
    go_wp2_with fail
    ((with_reducible refine (HS.out _).mono ?_); rintro e w' ⟨rfl, hbw⟩)
    obtain ⟨m, rfl⟩ := grow_mk hbw
    clear hbw
    go_wp2_with fail
    go_ret
    exact ⟨ret_bool rfl, below_grow (below_box _ _) m⟩
  | false =>
    rw [c, Bool.or_false] at hs
    by_cases hz : n = 0 ∧ d = 0
    · obtain ⟨rfl, rfl⟩ := hz
      rw [show (decide ((0:Int) = 0) && decide ((0:Int) = 0)) = true by simp] at hs
      have HS := Lib.hid hs
      clear hs hd
      go_enter Try.func69, Try.ntmps69
      go_wp2_with fail
      ((with_reducible refine (HS.out _).mono ?_); rintro e w' ⟨rfl, hbw⟩)
      obtain ⟨m, rfl⟩ := grow_mk hbw
      clear hbw
      go_wp2_with fail
      go_ret
      exact ⟨ret_bool rfl, below_grow (below_box _ _) m⟩
    · rw [show (decide (n = 0) && decide (d = 0)) = false by simp; omega] at hs
      have HS := Lib.hid hs
      clear hs hd hz
      go_enter Try.func69, Try.ntmps69
      go_wp2_with fail
      ((with_reducible refine (HS.out _).mono ?_); rintro e w' ⟨rfl, hbw⟩)
      obtain ⟨m, rfl⟩ := grow_mk hbw
      clear hbw
      go_wp2_with fail
      go_ret
      exact ⟨ret_bool rfl, below_grow (below_box _ _) m⟩

/-- what stands where in Cmp, behind its two products -/
structure Cm (w wr : World) (g g' tr t : Nat) (n d p q : Int) (xh xl yh yl : Nat) : Prop where
  below : Below w.heap.size w wr
  a : Blk wr w.heap.size tr #[.int .i64 n, .int .i64 d]
  b : Blk wr (w.heap.size + 1) tr #[.int .i64 p, .int .i64 q]
  x : Blk wr g t #[.int .u64 xh, .int .u64 xl]
  y : Blk wr g' t #[.int .u64 yh, .int .u64 yl]
theorem Cm.set {w wr : World} {g g' tr t : Nat} {n d p q : Int} {xh xl yh yl a1 a2 a3 a4 : Nat} (h : Cm w wr g g' tr t n d p q a1 a2 a3 a4) (k : w.heap.size + 2 ≤ g) (k' : w.heap.size + 2 ≤ g') (hne : g ≠ g') :
    Cm w ((((wr.setCell ⟨g, 0, none⟩ (.int .u64 xh)).setCell ⟨g, 1, none⟩ (.int .u64 xl)).setCell ⟨g', 0, none⟩ (.int .u64 yh)).setCell ⟨g', 1, none⟩ (.int .u64 yl)) g g' tr t n d p q xh xl yh yl :=
  ⟨(((h.below.setCell (by simp; omega) _).setCell (by simp; omega) _).setCell (by simp; omega) _).setCell (by simp; omega) _, (h.a.far2 (by omega) _ _ _ _).far2 (by omega) _ _ _ _, (h.b.far2 (by omega) _ _ _ _).far2 (by omega) _ _ _ _,
    (h.x.put2 _ _).far2 hne _ _ _ _, (h.y.far2 (Ne.symm hne) _ _ _ _).put2 _ _⟩
theorem Cm.grow {w wr : World} {g g' tr t : Nat} {n d p q : Int} {xh xl yh yl : Nat} (h : Cm w wr g g' tr t n d p q xh xl yh yl) (m : Ext wr) : Cm w (grow wr m) g g' tr t n d p q xh xl yh yl := ⟨below_grow h.below m, h.a.grow m, h.b.grow m, h.x.grow m, h.y.grow m⟩

set_option maxHeartbeats 2000000 in
theorem rcmp_any (a b : Rt) (w : World) (ha : Is64 a) (hb : Is64 b) :
    Calls Try.prog 25 #[rv a, rv b] w fun e w' => e = .returned (.tuple #[.int .i64 (cmpR a b), .bool (sureB a && sureB b)]) ∧ Below w.heap.size w w' := by
  have hs := fun w => is_any a w ha
  have ht := fun w => is_any b w hb
  unfold cmpR
  cases c1 : sureB a with
  | false =>
    rw [c1] at hs
    obtain ⟨n, d⟩ := a; obtain ⟨p, q⟩ := b
    have HS := Lib.hid hs
    clear hs ht c1
    go_enter Try.func25, Try.ntmps25
    go_wp2_with fail
    ((with_reducible refine (HS.out _).mono ?_); rintro e w' ⟨rfl, hbw⟩)
    obtain ⟨m, rfl⟩ := grow_mk hbw
    clear hbw
    go_wp2_with fail
    go_ret2
    exact ⟨ret_ib rfl rfl, below_grow ((below_box _ _).alloc (by simp) _) _⟩
  | true =>
    rw [c1] at hs
    have d1 := sureB_den c1
    cases c2 : sureB b with
    | false =>
      rw [c2] at ht
      obtain ⟨n, d⟩ := a; obtain ⟨p, q⟩ := b
      have HS := Lib.hid hs
      have HT := Lib.hid ht
      clear hs ht c1 c2
      go_enter Try.func25, Try.ntmps25
      go_wp2_with fail
      ((with_reducible refine (HS.out _).mono ?_); rintro e w' ⟨rfl, hbw⟩)
      obtain ⟨m, rfl⟩ := grow_mk hbw
      clear hbw
      go_wp2_with fail
      ((with_reducible refine (HT.out _).mono ?_); rintro e w' ⟨rfl, hbw⟩)
      obtain ⟨m2, rfl⟩ := grow_mk hbw
      clear hbw
      go_wp2_with fail
      go_ret2
      exact ⟨ret_ib rfl rfl, below_grow (below_grow ((below_box _ _).alloc (by simp) _) _) _⟩
    | true =>
      rw [c2] at ht
      have d2 := sureB_den c2
      obtain ⟨n, d⟩ := a; obtain ⟨p, q⟩ := b
      obtain ⟨b1, b2, b3, b4⟩ := ha
      obtain ⟨b5, b6, b7, b8⟩ := hb
      simp only at b1 b2 b3 b4 b5 b6 b7 b8 d1 d2
      have HS := Lib.hid hs
      have HT := Lib.hid ht
      have e1 : ((d.toNat : Nat) : Int) = d := by omega
      have e2 : ((q.toNat : Nat) : Int) = q := by omega
      have e3 : IntKind.u64.wrap d = d := by rw [IntKind.wrap_u64]; omega
      have e4 : IntKind.u64.wrap q = q := by rw [IntKind.wrap_u64]; omega
      have M1 := Lib.hid (fun w => e2 ▸ wmul_any n.natAbs q.toNat (by omega) (by omega) w)
      have M2 := Lib.hid (fun w => e1 ▸ wmul_any p.natAbs d.toNat (by omega) (by omega) w)
      have HC := Lib.hid (cmpI_cases (a := (n, d)) (b := (p, q)) d1 d2)
      unfold crossA at HC
      simp only at HC
      clear e1 e2 hs ht c1 c2 d1 d2
      generalize cmpI (n, d) (p, q) = R at *
      generalize n.natAbs * q.toNat = X at *
      generalize p.natAbs * d.toNat = Y at *
      have hX := Lib.hid (show wn (X / 18446744073709551616) (X % 18446744073709551616) = X by unfold wn; omega)
      have hY := Lib.hid (show wn (Y / 18446744073709551616) (Y % 18446744073709551616) = Y by unfold wn; omega)
      have l1 : X % 18446744073709551616 < 18446744073709551616 := by omega
      have l2 : Y % 18446744073709551616 < 18446744073709551616 := by omega
      generalize X / 18446744073709551616 = xh at *
      generalize X % 18446744073709551616 = xl at *
      generalize Y / 18446744073709551616 = yh at *
      generalize Y % 18446744073709551616 = yl at *
      have HL1 := Lib.hid (fun w => less_any xh xl yh yl w l1 l2)
      have HL2 := Lib.hid (fun w => less_any yh yl xh xl w l2 l1)
      rw [hX.out, hY.out] at HL1 HL2
      clear hX hY l1 l2
      go_enter Try.func25, Try.ntmps25
      go_wp2_with fail
      ((with_reducible refine (HS.out _).mono ?_); rintro e w' ⟨rfl, hbw⟩)
      obtain ⟨m, rfl⟩ := grow_mk hbw
      clear hbw
      go_wp2_with fail
      ((with_reducible refine (HT.out _).mono ?_); rintro e w' ⟨rfl, hbw⟩)
      obtain ⟨m2, rfl⟩ := grow_mk hbw
      clear hbw
      go_wp2_with fail
      refine wp_region_loose 16 [Loose.claim 2 20 (.int .u64 n.natAbs), Loose.claim 6 24 (wv xh xl), Loose.claim 9 27 (.int .u64 p.natAbs), Loose.claim 13 31 (wv yh yl), Loose.cells 14 6 81 #[.int .u64 0, .int .u64 0] (w.heap.size + 2), Loose.cells 15 7 81 #[.int .u64 0, .int .u64 0] (w.heap.size + 2)] (by kernel_rfl) rfl (by kernel_rfl) (by kernel_rfl) (by kernel_rfl) (by kernel_rfl) ?_
      simp only [headL, hushL, List.find?, Loose.claim_i, Loose.cells_i, Loose.rowL_i, Loose.claim_hush, Loose.cells_hush, Loose.rowL_hush, Nat.reduceBEq, Nat.reduceAdd]
      repeat (go_big_quiet_step (fail))
      refine wpQuiet_nil ⟨fun V m3 => ?_, fun V m3 => ?_⟩
      · simp only [obs_cons, obs_nil, List.getElem?_cons_zero, List.getElem?_cons_succ, fill_nil, fill_claim, fill_cells, fill_rowL, Loose.claim_i, Loose.cells_i, Loose.rowL_i, Act.put, List.setIfInBounds_toArray, List.set_cons_zero, List.set_cons_succ]
        generalize V 14 = v14
        generalize V 15 = v15
        refine ⟨fun _ => ?_, fun _ => ?_, fun _ => ?_, fun _ => ?_, fun _ => ?_, fun _ => ?_, trivial⟩
        · go_wp2_with fail
          ((with_reducible refine (mag_any n _ b1 b2).mono ?_); rintro e w' ⟨rfl, rfl⟩)
          go_wp2_with fail
          exact post_claim rfl (Below.refl _ _)
        · go_wp2_with fail
          ((with_reducible refine (M1.out _).mono ?_); rintro e w' ⟨rfl, hbw⟩)
          obtain ⟨m4, rfl⟩ := grow_mk hbw
          clear hbw
          go_wp2_with fail
          exact post_claim rfl (grow_trans_below _ _)
        · go_wp2_with fail
          ((with_reducible refine (mag_any p _ b5 b6).mono ?_); rintro e w' ⟨rfl, rfl⟩)
          go_wp2_with fail
          exact post_claim rfl (Below.refl _ _)
        · go_wp2_with fail
          ((with_reducible refine (M2.out _).mono ?_); rintro e w' ⟨rfl, hbw⟩)
          obtain ⟨m4, rfl⟩ := grow_mk hbw
          clear hbw
          go_wp2_with fail
          exact post_claim rfl (grow_trans_below _ _)
        · have hsz := grow_size ((m.trans m2).trans m3)
          simp at hsz
          go_wp2_with fail
          exact post_cells rfl hsz
        · have hsz := grow_size ((m.trans m2).trans m3)
          simp at hsz
          go_wp2_with fail
          exact post_cells rfl hsz
      · simp only [laws_nil, laws_claim, laws_cells, laws_rowL, dist_nil, dist_claim, dist_cells, dist_rowL, dist1_nil, dist1_claim, dist1_cells, dist1_rowL, dist1_cells_rowL, dist1_rowL_cells, List.drop_succ_cons, List.drop_zero, and_true, fill_nil, fill_claim, fill_cells, fill_rowL, Loose.claim_i, Loose.cells_i, Loose.rowL_i, Act.put, List.setIfInBounds_toArray, List.set_cons_zero, List.set_cons_succ]
        rintro ⟨⟨g, hg, hk, hX⟩, g', hg', hk', hY⟩ hne
        replace hne := ownP_ne hne hg hg'
        rw [hg, hg']
        clear hg hg' HS HT M1 M2
        rw [grow_grow] at *
        have hA := ((Blk.new w 23 #[.int .i64 n, .int .i64 d]).old (.cells #[.int .i64 p, .int .i64 q] 23)).grow ((m.trans m2).trans m3)
        have hB := (Blk.new2 w (.cells #[.int .i64 n, .int .i64 d] 23) 23 #[.int .i64 p, .int .i64 q]).grow ((m.trans m2).trans m3)
        have hb := below_grow ((below_box w (.cells #[.int .i64 n, .int .i64 d] 23)).alloc (by simp) (.cells #[.int .i64 p, .int .i64 q] 23)) ((m.trans m2).trans m3)
        generalize grow _ ((m.trans m2).trans m3) = wr at *
        have hM : Cm w wr g g' 23 81 n d p q 0 0 0 0 := ⟨hb, hA, hB, hX, hY⟩
        have hM2 := hM.set (xh := xh) (xl := xl) (yh := yh) (yl := yl) hk hk' hne
        clear hM hb hA hB m m2 m3 V
        have cx0 : wr.cell? ⟨g, 0, none⟩ = some (.int .u64 0) := hX.cell 0
        have cx1 : wr.cell? ⟨g, 1, none⟩ = some (.int .u64 0) := hX.cell 1
        have cy0 : wr.cell? ⟨g', 0, none⟩ = some (.int .u64 0) := hY.cell 0
        have cy1 : wr.cell? ⟨g', 1, none⟩ = some (.int .u64 0) := hY.cell 1
        have fx0 := hX.frozen 0
        have fx1 := hX.frozen 1
        have fy0 := hY.frozen 0
        have fy1 := hY.frozen 1
        have hne' := Ne.symm hne
        clear hX hY
        go_wp2_with fail
        clear cx0 cx1 cy0 cy1 fx0 fx1 fy0 fy1
        generalize ((((wr.setCell ⟨g, 0, none⟩ (.int .u64 xh)).setCell ⟨g, 1, none⟩ (.int .u64 xl)).setCell ⟨g', 0, none⟩ (.int .u64 yh)).setCell ⟨g', 1, none⟩ (.int .u64 yl)) = wc at *
        have ca0 : wc.cell? ⟨w.heap.size, 0, none⟩ = some (.int .i64 n) := hM2.a.cell 0
        have cb0 : wc.cell? ⟨w.heap.size + 1, 0, none⟩ = some (.int .i64 p) := hM2.b.cell 0
        have cx0 : wc.cell? ⟨g, 0, none⟩ = some (.int .u64 xh) := hM2.x.cell 0
        have cx1 : wc.cell? ⟨g, 1, none⟩ = some (.int .u64 xl) := hM2.x.cell 1
        have cy0 : wc.cell? ⟨g', 0, none⟩ = some (.int .u64 yh) := hM2.y.cell 0
        have cy1 : wc.cell? ⟨g', 1, none⟩ = some (.int .u64 yl) := hM2.y.cell 1
        have fx0 := hM2.x.frozen 0
        have fx1 := hM2.x.frozen 1
        have fy0 := hM2.y.frozen 0
        have fy1 := hM2.y.frozen 1
        have la := hM2.a.lt
        have lb := hM2.b.lt
        have lx := hM2.x.lt
        have ly := hM2.y.lt
        by_cases s1 : n < 0 <;> by_cases s2 : p < 0
        · have g1 : decide (n < 0) = true := by simpa using s1
          have g2 : decide (p < 0) = true := by simpa using s2
          have HF := Lib.hid (HC.out.trans (by rw [if_pos s1, if_pos s2]))
          clear HC s1 s2
          refine wp_region_grow (by kernel_rfl) (by kernel_rfl) ?_
          repeat (go_big_quiet_step (fail))
          refine wpQuiet_nil ?_
          rintro _ ⟨m, rfl⟩
          go_wp2_with fail
          have hM3 := (hM2.grow m).set (xh := yh) (xl := yl) (yh := xh) (yl := xl) hk hk' hne
          clear hM2 ca0 cb0 cx0 cx1 cy0 cy1 fx0 fx1 fy0 fy1 la lb lx ly
          generalize (((((grow wc m).setCell ⟨g, 0, none⟩ (.int .u64 yh)).setCell ⟨g, 1, none⟩ (.int .u64 yl)).setCell ⟨g', 0, none⟩ (.int .u64 xh)).setCell ⟨g', 1, none⟩ (.int .u64 xl)) = wd at *
          have cx0 : wd.cell? ⟨g, 0, none⟩ = some (.int .u64 yh) := hM3.x.cell 0
          have cx1 : wd.cell? ⟨g, 1, none⟩ = some (.int .u64 yl) := hM3.x.cell 1
          have cy0 : wd.cell? ⟨g', 0, none⟩ = some (.int .u64 xh) := hM3.y.cell 0
          have cy1 : wd.cell? ⟨g', 1, none⟩ = some (.int .u64 xl) := hM3.y.cell 1
          have lx := hM3.x.lt
          have ly := hM3.y.lt
          by_cases c1 : Y < X
          · have HL := Lib.hid (show ∀ w, _ from fun w => by have := HL2.out w; rw [show decide (Y < X) = true by simpa using c1] at this; exact this)
            go_wp2_with fail
            ((with_reducible refine (HL.out _).mono ?_); rintro e w' ⟨rfl, hbw⟩)
            obtain ⟨m2, rfl⟩ := grow_mk hbw
            clear hbw
            go_wp2_with fail
            go_ret2
            exact ⟨ret_ib (by rw [HF.out]; unfold cmpN; rw [if_pos c1]) rfl, (hM3.grow m2).below⟩
          · have HL := Lib.hid (show ∀ w, _ from fun w => by have := HL2.out w; rw [show decide (Y < X) = false by simpa using c1] at this; exact this)
            go_wp2_with fail
            ((with_reducible refine (HL.out _).mono ?_); rintro e w' ⟨rfl, hbw⟩)
            obtain ⟨m2, rfl⟩ := grow_mk hbw
            clear hbw
            by_cases c2 : X < Y
            · have HK := Lib.hid (show ∀ w, _ from fun w => by have := HL1.out w; rw [show decide (X < Y) = true by simpa using c2] at this; exact this)
              go_wp2_with fail
              ((with_reducible refine (HK.out _).mono ?_); rintro e w' ⟨rfl, hbw⟩)
              obtain ⟨m4, rfl⟩ := grow_mk hbw
              clear hbw
              go_wp2_with fail
              go_ret2
              exact ⟨ret_ib (by rw [HF.out]; unfold cmpN; rw [if_neg c1, if_pos c2]) rfl, ((hM3.grow m2).grow m4).below⟩
            · have HK := Lib.hid (show ∀ w, _ from fun w => by have := HL1.out w; rw [show decide (X < Y) = false by simpa using c2] at this; exact this)
              go_wp2_with fail
              ((with_reducible refine (HK.out _).mono ?_); rintro e w' ⟨rfl, hbw⟩)
              obtain ⟨m4, rfl⟩ := grow_mk hbw
              clear hbw
              go_wp2_with fail
              go_ret2
              exact ⟨ret_ib (by rw [HF.out]; unfold cmpN; rw [if_neg c1, if_neg c2]) rfl, ((hM3.grow m2).grow m4).below⟩
        · have g1 : decide (n < 0) = true := by simpa using s1
          have g2 : decide (p < 0) = false := by simpa using s2
          have HF := Lib.hid (HC.out.trans (by rw [if_pos s1, if_neg s2]))
          clear HC s1 s2
          refine wp_region_grow (by kernel_rfl) (by kernel_rfl) ?_
          repeat (go_big_quiet_step (fail))
          refine wpQuiet_nil ?_
          rintro _ ⟨m, rfl⟩
          go_wp2_with fail
          go_ret2
          exact ⟨ret_ib HF.out.symm rfl, (hM2.grow m).below⟩
        · have g1 : decide (n < 0) = false := by simpa using s1
          have g2 : decide (p < 0) = true := by simpa using s2
          have HF := Lib.hid (HC.out.trans (by rw [if_neg s1, if_pos s2]))
          clear HC s1 s2
          refine wp_region_grow (by kernel_rfl) (by kernel_rfl) ?_
          repeat (go_big_quiet_step (fail))
          refine wpQuiet_nil ?_
          rintro _ ⟨m, rfl⟩
          go_wp2_with fail
          go_ret2
          exact ⟨ret_ib HF.out.symm rfl, (hM2.grow m).below⟩
        · have g1 : decide (n < 0) = false := by simpa using s1
          have g2 : decide (p < 0) = false := by simpa using s2
          have HF := Lib.hid (HC.out.trans (by rw [if_neg s1, if_neg s2]))
          clear HC s1 s2
          refine wp_region_grow (by kernel_rfl) (by kernel_rfl) ?_
          repeat (go_big_quiet_step (fail))
          refine wpQuiet_nil ?_
          rintro _ ⟨m, rfl⟩
          go_wp2_with fail
          have hM4 := hM2.grow m
          by_cases c1 : X < Y
          · have HL := Lib.hid (show ∀ w, _ from fun w => by have := HL1.out w; rw [show decide (X < Y) = true by simpa using c1] at this; exact this)
            go_wp2_with fail
            ((with_reducible refine (HL.out _).mono ?_); rintro e w' ⟨rfl, hbw⟩)
            obtain ⟨m2, rfl⟩ := grow_mk hbw
            clear hbw
            go_wp2_with fail
            go_ret2
            exact ⟨ret_ib (by rw [HF.out]; unfold cmpN; rw [if_pos c1]) rfl, (hM4.grow m2).below⟩
          · have HL := Lib.hid (show ∀ w, _ from fun w => by have := HL1.out w; rw [show decide (X < Y) = false by simpa using c1] at this; exact this)
            go_wp2_with fail
            ((with_reducible refine (HL.out _).mono ?_); rintro e w' ⟨rfl, hbw⟩)
            obtain ⟨m2, rfl⟩ := grow_mk hbw
            clear hbw
            by_cases c2 : Y < X
            · have HK := Lib.hid (show ∀ w, _ from fun w => by have := HL2.out w; rw [show decide (Y < X) = true by simpa using c2] at this; exact this)
              go_wp2_with fail
              ((with_reducible refine (HK.out _).mono ?_); rintro e w' ⟨rfl, hbw⟩)
              obtain ⟨m4, rfl⟩ := grow_mk hbw
              clear hbw
              go_wp2_with fail
              go_ret2
              exact ⟨ret_ib (by rw [HF.out]; unfold cmpN; rw [if_neg c1, if_pos c2]) rfl, ((hM4.grow m2).grow m4).below⟩
            · have HK := Lib.hid (show ∀ w, _ from fun w => by have := HL2.out w; rw [show decide (Y < X) = false by simpa using c2] at this; exact this)
              go_wp2_with fail
              ((with_reducible refine (HK.out _).mono ?_); rintro e w' ⟨rfl, hbw⟩)
              obtain ⟨m4, rfl⟩ := grow_mk hbw
              clear hbw
              go_wp2_with fail
              go_ret2
              exact ⟨ret_ib (by rw [HF.out]; unfold cmpN; rw [if_neg c1, if_neg c2]) rfl, ((hM4.grow m2).grow m4).below⟩

end Go.Proofs.Ytgjhaanpkfheeaa
