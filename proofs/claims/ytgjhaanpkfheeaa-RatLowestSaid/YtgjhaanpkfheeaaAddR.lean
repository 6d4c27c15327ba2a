/- The reference's sum of two fractions. -/
import Derived.Test.YtgjhaanpkfheeaaMulR
import Derived.Test.YtgjhaanpkfheeaaPlusM
namespace Go.Proofs.Ytgjhaanpkfheeaa
set_option linter.unusedVariables false
set_option linter.unusedSimpArgs false
open Go.RowKit

/-- what stands where in add2, behind its first two products -/
structure Ca (w wr : World) (g g' tr t : Nat) (n d p q : Int) (xh xl yh yl : Nat) : Prop where
  below : Below w.heap.size w wr
  a : Blk wr w.heap.size tr #[.int .i64 n, .int .i64 d]
  b : Blk wr (w.heap.size + 1) tr #[.int .i64 p, .int .i64 q]
  r : Blk wr (w.heap.size + 1 + 1) tr #[.int .i64 0, .int .i64 0]
  x : Blk wr g t #[.int .u64 xh, .int .u64 xl]
  y : Blk wr g' t #[.int .u64 yh, .int .u64 yl]
theorem Ca.set {w wr : World} {g g' tr t : Nat} {n d p q : Int} {xh xl yh yl a1 a2 a3 a4 : Nat} (h : Ca w wr g g' tr t n d p q a1 a2 a3 a4) (k : w.heap.size + 3 ≤ g) (k' : w.heap.size + 3 ≤ g') (hne : g ≠ g') :
    Ca w ((((wr.setCell ⟨g, 0, none⟩ (.int .u64 xh)).setCell ⟨g, 1, none⟩ (.int .u64 xl)).setCell ⟨g', 0, none⟩ (.int .u64 yh)).setCell ⟨g', 1, none⟩ (.int .u64 yl)) g g' tr t n d p q xh xl yh yl :=
  ⟨(((h.below.setCell (by simp; omega) _).setCell (by simp; omega) _).setCell (by simp; omega) _).setCell (by simp; omega) _, (h.a.far2 (by omega) _ _ _ _).far2 (by omega) _ _ _ _, (h.b.far2 (by omega) _ _ _ _).far2 (by omega) _ _ _ _, (h.r.far2 (by omega) _ _ _ _).far2 (by omega) _ _ _ _,
    (h.x.put2 _ _).far2 hne _ _ _ _, (h.y.far2 (Ne.symm hne) _ _ _ _).put2 _ _⟩
theorem Ca.grow {w wr : World} {g g' tr t : Nat} {n d p q : Int} {xh xl yh yl : Nat} (h : Ca w wr g g' tr t n d p q xh xl yh yl) (m : Ext wr) : Ca w (grow wr m) g g' tr t n d p q xh xl yh yl := ⟨below_grow h.below m, h.a.grow m, h.b.grow m, h.r.grow m, h.x.grow m, h.y.grow m⟩
theorem Ca.alloc {w wr : World} {g g' tr t : Nat} {n d p q : Int} {xh xl yh yl : Nat} (h : Ca w wr g g' tr t n d p q xh xl yh yl) (o : Obj) : Ca w (wr.alloc o) g g' tr t n d p q xh xl yh yl := ⟨h.below.alloc h.below.size o, h.a.old o, h.b.old o, h.r.old o, h.x.old o, h.y.old o⟩

/-- the sum, the difference of two wide numbers, by their wholes -/
theorem wadd_whole (X Y : Nat) (h : X + Y < 340282366920938463463374607431768211456) (w : World) :
    Calls Try.prog 108 #[wv (X / 18446744073709551616) (X % 18446744073709551616), wv (Y / 18446744073709551616) (Y % 18446744073709551616)] w fun e w' => e = .returned (wv ((X + Y) / 18446744073709551616) ((X + Y) % 18446744073709551616)) ∧ Below w.heap.size w w' := by
  have := wadd_any (X / 18446744073709551616) (X % 18446744073709551616) (Y / 18446744073709551616) (Y % 18446744073709551616) (by omega) (by omega) (by omega) (by omega) w
  rw [show (X / 18446744073709551616 + Y / 18446744073709551616 + (X % 18446744073709551616 + Y % 18446744073709551616) / 18446744073709551616) % 18446744073709551616 = (X + Y) / 18446744073709551616 by omega,
    show (X % 18446744073709551616 + Y % 18446744073709551616) % 18446744073709551616 = (X + Y) % 18446744073709551616 by omega] at this
  exact this
theorem wsub_whole (X Y : Nat) (hx : X < 340282366920938463463374607431768211456) (h : Y ≤ X) (w : World) :
    Calls Try.prog 109 #[wv (X / 18446744073709551616) (X % 18446744073709551616), wv (Y / 18446744073709551616) (Y % 18446744073709551616)] w fun e w' => e = .returned (wv ((X - Y) / 18446744073709551616) ((X - Y) % 18446744073709551616)) ∧ Below w.heap.size w w' := by
  have := wsub_any (X / 18446744073709551616) (X % 18446744073709551616) (Y / 18446744073709551616) (Y % 18446744073709551616) (by omega) (by omega) (by omega) (by omega) (by unfold wn; omega) w
  rw [show subHi (X / 18446744073709551616) (X % 18446744073709551616) (Y / 18446744073709551616) (Y % 18446744073709551616) = (X - Y) / 18446744073709551616 by unfold subHi; split <;> omega,
    show subLo (X % 18446744073709551616) (Y % 18446744073709551616) = (X - Y) % 18446744073709551616 by unfold subLo; omega] at this
  exact this

theorem plusParts_eq (n d p q : Int) : plusParts (n, d) (p, q) = (if decide (n < 0) = decide (p < 0) then (decide (n < 0), n.natAbs * q.toNat + p.natAbs * d.toNat) else if n.natAbs * q.toNat < p.natAbs * d.toNat then (decide (p < 0), p.natAbs * d.toNat - n.natAbs * q.toNat) else (decide (n < 0), n.natAbs * q.toNat - p.natAbs * d.toNat)) := rfl

set_option maxHeartbeats 2000000 in
theorem add2_any (a b : Rt) (w : World) (ha : Is64 a) (hb : Is64 b) :
    Calls Try.prog 89 #[rv a, rv b] w fun e w' => e = .returned (rv (op2 addF a b)) ∧ Below w.heap.size w w' := by
  have hs := fun w => is_any a w ha
  have ht := fun w => is_any b w hb
  have HO := Lib.hid (fun w => over_any w)
  unfold op2
  cases c1 : sureB a with
  | false =>
    rw [c1] at hs
    obtain ⟨n, d⟩ := a; obtain ⟨p, q⟩ := b
    have HS := Lib.hid hs
    clear hs ht c1
    go_enter Try.func89, Try.ntmps89
    go_wp2_with fail
    ((with_reducible refine (HS.out _).mono ?_); rintro e w' ⟨rfl, hbw⟩)
    obtain ⟨m, rfl⟩ := grow_mk hbw
    clear hbw
    go_wp2_with fail
    ((with_reducible refine (HO.out _).mono ?_); rintro e w' ⟨rfl, hbw⟩)
    obtain ⟨m2, rfl⟩ := grow_mk hbw
    clear hbw
    go_wp2_with fail
    exact bodyPost_ret (v := .agg #[.int .i64 0, .int .i64 0]) (by simp [results, Try.results89, go_sem]) rfl ⟨rfl, ((below_grow (below_grow (((below_box _ _).alloc (by simp) _).alloc (by simp; omega) _) m) m2).setCell (by first | omega | (simp; done) | (simp; omega)) _).setCell (by first | omega | (simp; done) | (simp; omega)) _⟩
  | true =>
    rw [c1] at hs
    have d1 := sureB_den c1
    cases c2 : sureB b with
    | false =>
      rw [c2] at ht
      obtain ⟨n, d⟩ := a; obtain ⟨p, q⟩ := b
      have HS := Lib.hid hs
      have HT := Lib.hid ht
      clear hs ht c1 c2
      go_enter Try.func89, Try.ntmps89
      go_wp2_with fail
      ((with_reducible refine (HS.out _).mono ?_); rintro e w' ⟨rfl, hbw⟩)
      obtain ⟨m, rfl⟩ := grow_mk hbw
      clear hbw
      go_wp2_with fail
      ((with_reducible refine (HT.out _).mono ?_); rintro e w' ⟨rfl, hbw⟩)
      obtain ⟨m2, rfl⟩ := grow_mk hbw
      clear hbw
      go_wp2_with fail
      ((with_reducible refine (HO.out _).mono ?_); rintro e w' ⟨rfl, hbw⟩)
      obtain ⟨m3, rfl⟩ := grow_mk hbw
      clear hbw
      go_wp2_with fail
      exact bodyPost_ret (v := .agg #[.int .i64 0, .int .i64 0]) (by simp [results, Try.results89, go_sem]) rfl ⟨rfl, ((below_grow (below_grow (((below_box _ _).alloc (by simp) _).alloc (by simp; omega) _) _) m3).setCell (by first | omega | (simp; done) | (simp; omega)) _).setCell (by first | omega | (simp; done) | (simp; omega)) _⟩
    | true =>
      rw [c2] at ht
      have d2 := sureB_den c2
      have n1 := sureB_num c1
      have n2 := sureB_num c2
      obtain ⟨n, d⟩ := a; obtain ⟨p, q⟩ := b
      obtain ⟨b1, b2, b3, b4⟩ := ha
      obtain ⟨b5, b6, b7, b8⟩ := hb
      simp only at b1 b2 b3 b4 b5 b6 b7 b8 d1 d2 n1 n2
      have HS := Lib.hid hs
      have HT := Lib.hid ht
      have e1 : ((d.toNat : Nat) : Int) = d := by omega
      have e2 : ((q.toNat : Nat) : Int) = q := by omega
      have e3 : IntKind.u64.wrap d = d := by rw [IntKind.wrap_u64]; omega
      have e4 : IntKind.u64.wrap q = q := by rw [IntKind.wrap_u64]; omega
      have M1 := Lib.hid (fun w => e2 ▸ wmul_any n.natAbs q.toNat (by omega) (by omega) w)
      have M2 := Lib.hid (fun w => e1 ▸ wmul_any p.natAbs d.toNat (by omega) (by omega) w)
      have M3 := Lib.hid (fun w => e1 ▸ e2 ▸ wmul_any d.toNat q.toNat (by omega) (by omega) w)
      have hX : n.natAbs * q.toNat < 85070591730234615865843651857942052864 := Nat.lt_of_le_of_lt (Nat.mul_le_mul (show n.natAbs ≤ 9223372036854775807 by omega) (show q.toNat ≤ 9223372036854775807 by omega)) (by decide)
      have hY : p.natAbs * d.toNat < 85070591730234615865843651857942052864 := Nat.lt_of_le_of_lt (Nat.mul_le_mul (show p.natAbs ≤ 9223372036854775807 by omega) (show d.toNat ≤ 9223372036854775807 by omega)) (by decide)
      have hZ : d.toNat * q.toNat < 85070591730234615865843651857942052864 := Nat.lt_of_le_of_lt (Nat.mul_le_mul (show d.toNat ≤ 9223372036854775807 by omega) (show q.toNat ≤ 9223372036854775807 by omega)) (by decide)
      have hF : addF (n, d) (p, q) = fracOf (plusParts (n, d) (p, q)).1 (plusParts (n, d) (p, q)).2 (d.toNat * q.toNat) := rfl
      rw [plusParts_eq] at hF
      generalize addF (n, d) (p, q) = R at *
      clear e1 e2 hs ht c1 c2 d1 d2 n1 n2
      generalize n.natAbs * q.toNat = X at *
      generalize p.natAbs * d.toNat = Y at *
      generalize d.toNat * q.toNat = Z at *
      obtain ⟨nb, hnb⟩ : ∃ v, decide (n < 0) = v := ⟨_, rfl⟩
      obtain ⟨pb, hpb⟩ : ∃ v, decide (p < 0) = v := ⟨_, rfl⟩
      rw [hnb, hpb] at hF
      have HF := Lib.hid hF
      have HA := Lib.hid (fun w => wadd_whole X Y (by omega) w)
      have HS1 := Lib.hid (fun h w => wsub_whole X Y (by omega) h w)
      have HS2 := Lib.hid (fun h w => wsub_whole Y X (by omega) h w)
      have HMA := Lib.hid (fun neg w => wmade_whole neg (X + Y) Z (by omega) (by omega) w)
      have HMS1 := Lib.hid (fun neg w => wmade_whole neg (X - Y) Z (by omega) (by omega) w)
      have HMS2 := Lib.hid (fun neg w => wmade_whole neg (Y - X) Z (by omega) (by omega) w)
      have hl1 := fun w => less_any (X / 18446744073709551616) (X % 18446744073709551616) (Y / 18446744073709551616) (Y % 18446744073709551616) w (by omega) (by omega)
      rw [show wn (X / 18446744073709551616) (X % 18446744073709551616) = X by unfold wn; omega, show wn (Y / 18446744073709551616) (Y % 18446744073709551616) = Y by unfold wn; omega] at hl1
      have HL := Lib.hid hl1
      clear hl1 hF hX hY hZ
      obtain ⟨sh, qsh⟩ : ∃ v, v = (X + Y) / 18446744073709551616 := ⟨_, rfl⟩
      rw [← qsh] at HA HMA
      clear qsh
      obtain ⟨sl, qsl⟩ : ∃ v, v = (X + Y) % 18446744073709551616 := ⟨_, rfl⟩
      rw [← qsl] at HA HMA
      clear qsl
      obtain ⟨eh, qeh⟩ : ∃ v, v = (X - Y) / 18446744073709551616 := ⟨_, rfl⟩
      rw [← qeh] at HS1 HMS1
      clear qeh
      obtain ⟨el, qel⟩ : ∃ v, v = (X - Y) % 18446744073709551616 := ⟨_, rfl⟩
      rw [← qel] at HS1 HMS1
      clear qel
      obtain ⟨fh, qfh⟩ : ∃ v, v = (Y - X) / 18446744073709551616 := ⟨_, rfl⟩
      rw [← qfh] at HS2 HMS2
      clear qfh
      obtain ⟨fl, qfl⟩ : ∃ v, v = (Y - X) % 18446744073709551616 := ⟨_, rfl⟩
      rw [← qfl] at HS2 HMS2
      clear qfl
      generalize X / 18446744073709551616 = xh at *
      generalize X % 18446744073709551616 = xl at *
      generalize Y / 18446744073709551616 = yh at *
      generalize Y % 18446744073709551616 = yl at *
      generalize Z / 18446744073709551616 = zh at *
      generalize Z % 18446744073709551616 = zl at *
      unfold wv at M1 M2 M3 HA HS1 HS2 HMA HMS1 HMS2 HL
      go_enter Try.func89, Try.ntmps89
      go_wp2_with fail
      ((with_reducible refine (HS.out _).mono ?_); rintro e w' ⟨rfl, hbw⟩)
      obtain ⟨m, rfl⟩ := grow_mk hbw
      clear hbw
      go_wp2_with fail
      ((with_reducible refine (HT.out _).mono ?_); rintro e w' ⟨rfl, hbw⟩)
      obtain ⟨m2, rfl⟩ := grow_mk hbw
      clear hbw
      go_wp2_with fail
      refine wp_region_loose 16 [Loose.claim 2 21 (.int .u64 n.natAbs), Loose.claim 6 25 (wv xh xl), Loose.claim 9 28 (.int .u64 p.natAbs), Loose.claim 13 32 (wv yh yl), Loose.cells 14 5 81 #[.int .u64 0, .int .u64 0] (w.heap.size + 3), Loose.cells 15 6 81 #[.int .u64 0, .int .u64 0] (w.heap.size + 3)] (by kernel_rfl) rfl (by kernel_rfl) (by kernel_rfl) (by kernel_rfl) (by kernel_rfl) ?_
      simp only [headL, hushL, List.find?, Loose.claim_i, Loose.cells_i, Loose.rowL_i, Loose.claim_hush, Loose.cells_hush, Loose.rowL_hush, Nat.reduceBEq, Nat.reduceAdd]
      repeat (go_big_quiet_step (fail))
      refine wpQuiet_nil ⟨fun V m3 => ?_, fun V m3 => ?_⟩
      · simp only [obs_cons, obs_nil, List.getElem?_cons_zero, List.getElem?_cons_succ, fill_nil, fill_claim, fill_cells, fill_rowL, Loose.claim_i, Loose.cells_i, Loose.rowL_i, Act.put, List.setIfInBounds_toArray, List.set_cons_zero, List.set_cons_succ]
        generalize V 14 = v14
        generalize V 15 = v15
        refine ⟨fun _ => ?_, fun _ => ?_, fun _ => ?_, fun _ => ?_, fun _ => ?_, fun _ => ?_, trivial⟩
        · go_wp2_with fail
          ((with_reducible refine (mag_any n _ b1 b2).mono ?_); rintro e w' ⟨rfl, rfl⟩)
          go_wp2_with fail
          exact post_claim rfl (Below.refl _ _)
        · go_wp2_with fail
          ((with_reducible refine (M1.out _).mono ?_); rintro e w' ⟨rfl, hbw⟩)
          obtain ⟨m4, rfl⟩ := grow_mk hbw
          clear hbw
          go_wp2_with fail
          exact post_claim rfl (grow_trans_below _ _)
        · go_wp2_with fail
          ((with_reducible refine (mag_any p _ b5 b6).mono ?_); rintro e w' ⟨rfl, rfl⟩)
          go_wp2_with fail
          exact post_claim rfl (Below.refl _ _)
        · go_wp2_with fail
          ((with_reducible refine (M2.out _).mono ?_); rintro e w' ⟨rfl, hbw⟩)
          obtain ⟨m4, rfl⟩ := grow_mk hbw
          clear hbw
          go_wp2_with fail
          exact post_claim rfl (grow_trans_below _ _)
        · have hsz := grow_size ((m.trans m2).trans m3)
          simp at hsz
          go_wp2_with fail
          exact post_cells rfl hsz
        · have hsz := grow_size ((m.trans m2).trans m3)
          simp at hsz
          go_wp2_with fail
          exact post_cells rfl hsz
      · simp only [laws_nil, laws_claim, laws_cells, laws_rowL, dist_nil, dist_claim, dist_cells, dist_rowL, dist1_nil, dist1_claim, dist1_cells, dist1_rowL, dist1_cells_rowL, dist1_rowL_cells, List.drop_succ_cons, List.drop_zero, and_true, fill_nil, fill_claim, fill_cells, fill_rowL, Loose.claim_i, Loose.cells_i, Loose.rowL_i, Act.put, List.setIfInBounds_toArray, List.set_cons_zero, List.set_cons_succ]
        rintro ⟨⟨g, hg, hk, hX⟩, g', hg', hk', hY⟩ hne
        replace hne := ownP_ne hne hg hg'
        rw [hg, hg']
        clear hg hg' HS HT M1 M2
        rw [grow_grow] at *
        have hA : Blk (((w.alloc (.cells #[.int .i64 n, .int .i64 d] 23)).alloc (.cells #[.int .i64 p, .int .i64 q] 23)).alloc (.cells #[.int .i64 0, .int .i64 0] 23)) w.heap.size 23 #[.int .i64 n, .int .i64 d] := ((Blk.new _ _ _).old _).old _
        have hB : Blk (((w.alloc (.cells #[.int .i64 n, .int .i64 d] 23)).alloc (.cells #[.int .i64 p, .int .i64 q] 23)).alloc (.cells #[.int .i64 0, .int .i64 0] 23)) (w.heap.size + 1) 23 #[.int .i64 p, .int .i64 q] := (Blk.new2 _ _ _ _).old _
        have hR : Blk (((w.alloc (.cells #[.int .i64 n, .int .i64 d] 23)).alloc (.cells #[.int .i64 p, .int .i64 q] 23)).alloc (.cells #[.int .i64 0, .int .i64 0] 23)) (w.heap.size + 1 + 1) 23 #[.int .i64 0, .int .i64 0] := (Blk.new _ _ _).moved (by simp)
        have hb : Below w.heap.size w (((w.alloc (.cells #[.int .i64 n, .int .i64 d] 23)).alloc (.cells #[.int .i64 p, .int .i64 q] 23)).alloc (.cells #[.int .i64 0, .int .i64 0] 23)) := ((below_box _ _).alloc (by simp) _).alloc (by simp; omega) _
        replace hA := hA.grow ((m.trans m2).trans m3)
        replace hB := hB.grow ((m.trans m2).trans m3)
        replace hR := hR.grow ((m.trans m2).trans m3)
        replace hb := below_grow hb ((m.trans m2).trans m3)
        generalize grow _ ((m.trans m2).trans m3) = wr at *
        have hM : Ca w wr g g' 23 81 n d p q 0 0 0 0 := ⟨hb, hA, hB, hR, hX, hY⟩
        have hM2 := hM.set (xh := xh) (xl := xl) (yh := yh) (yl := yl) hk hk' hne
        clear hM hb hA hB hR m m2 m3 V
        have cx0 : wr.cell? ⟨g, 0, none⟩ = some (.int .u64 0) := (hX).cell 0
        have fcx0 := (hX).frozen 0
        have cx1 : wr.cell? ⟨g, 1, none⟩ = some (.int .u64 0) := (hX).cell 1
        have fcx1 := (hX).frozen 1
        have lcx := (hX).lt
        have cy0 : wr.cell? ⟨g', 0, none⟩ = some (.int .u64 0) := (hY).cell 0
        have fcy0 := (hY).frozen 0
        have cy1 : wr.cell? ⟨g', 1, none⟩ = some (.int .u64 0) := (hY).cell 1
        have fcy1 := (hY).frozen 1
        have lcy := (hY).lt
        have hne' := Ne.symm hne
        clear hX hY
        go_upto_region 4 with fail
        clear cx0 cx1 cy0 cy1 fcx0 fcx1 fcy0 fcy1 lcx lcy
        generalize ((((wr.setCell ⟨g, 0, none⟩ (.int .u64 xh)).setCell ⟨g, 1, none⟩ (.int .u64 xl)).setCell ⟨g', 0, none⟩ (.int .u64 yh)).setCell ⟨g', 1, none⟩ (.int .u64 yl)) = wc at *
        have ca0 : wc.cell? ⟨w.heap.size, 0, none⟩ = some (.int .i64 n) := (hM2.a).cell 0
        have fca0 := (hM2.a).frozen 0
        have ca1 : wc.cell? ⟨w.heap.size, 1, none⟩ = some (.int .i64 d) := (hM2.a).cell 1
        have fca1 := (hM2.a).frozen 1
        have lca := (hM2.a).lt
        have cb0 : wc.cell? ⟨w.heap.size + 1, 0, none⟩ = some (.int .i64 p) := (hM2.b).cell 0
        have fcb0 := (hM2.b).frozen 0
        have cb1 : wc.cell? ⟨w.heap.size + 1, 1, none⟩ = some (.int .i64 q) := (hM2.b).cell 1
        have fcb1 := (hM2.b).frozen 1
        have lcb := (hM2.b).lt
        go_wp2_with fail
        ((with_reducible refine (M3.out _).mono ?_); rintro e w' ⟨rfl, hbw⟩)
        obtain ⟨m4, rfl⟩ := grow_mk hbw
        clear hbw
        go_upto_region 5 with fail
        have hM3 := (hM2.grow m4).alloc (.cells #[.int .u64 zh, .int .u64 zl] 81)
        have hZ := Blk.new (grow wc m4) 81 #[.int .u64 zh, .int .u64 zl]
        clear ca0 ca1 fca0 fca1 lca cb0 cb1 fcb0 fcb1 lcb hM2
        generalize (grow wc m4).heap.size = gz at *
        generalize World.alloc _ _ = wd at *
        have ca0 : wd.cell? ⟨w.heap.size, 0, none⟩ = some (.int .i64 n) := (hM3.a).cell 0
        have fca0 := (hM3.a).frozen 0
        have ca1 : wd.cell? ⟨w.heap.size, 1, none⟩ = some (.int .i64 d) := (hM3.a).cell 1
        have fca1 := (hM3.a).frozen 1
        have lca := (hM3.a).lt
        have cb0 : wd.cell? ⟨w.heap.size + 1, 0, none⟩ = some (.int .i64 p) := (hM3.b).cell 0
        have fcb0 := (hM3.b).frozen 0
        have cb1 : wd.cell? ⟨w.heap.size + 1, 1, none⟩ = some (.int .i64 q) := (hM3.b).cell 1
        have fcb1 := (hM3.b).frozen 1
        have lcb := (hM3.b).lt
        have cr0 : wd.cell? ⟨w.heap.size + 1 + 1, 0, none⟩ = some (.int .i64 0) := (hM3.r).cell 0
        have fcr0 := (hM3.r).frozen 0
        have cr1 : wd.cell? ⟨w.heap.size + 1 + 1, 1, none⟩ = some (.int .i64 0) := (hM3.r).cell 1
        have fcr1 := (hM3.r).frozen 1
        have lcr := (hM3.r).lt
        have cx0 : wd.cell? ⟨g, 0, none⟩ = some (.int .u64 xh) := (hM3.x).cell 0
        have fcx0 := (hM3.x).frozen 0
        have cx1 : wd.cell? ⟨g, 1, none⟩ = some (.int .u64 xl) := (hM3.x).cell 1
        have fcx1 := (hM3.x).frozen 1
        have lcx := (hM3.x).lt
        have cy0 : wd.cell? ⟨g', 0, none⟩ = some (.int .u64 yh) := (hM3.y).cell 0
        have fcy0 := (hM3.y).frozen 0
        have cy1 : wd.cell? ⟨g', 1, none⟩ = some (.int .u64 yl) := (hM3.y).cell 1
        have fcy1 := (hM3.y).frozen 1
        have lcy := (hM3.y).lt
        have cz0 : wd.cell? ⟨gz, 0, none⟩ = some (.int .u64 zh) := (hZ).cell 0
        have fcz0 := (hZ).frozen 0
        have cz1 : wd.cell? ⟨gz, 1, none⟩ = some (.int .u64 zl) := (hZ).cell 1
        have fcz1 := (hZ).frozen 1
        have lcz := (hZ).lt
        refine wp_region_grow (by kernel_rfl) (by kernel_rfl) ?_
        repeat (go_big_quiet_step (fail))
        refine wpQuiet_nil ?_
        rintro _ ⟨m5, rfl⟩
        obtain ⟨u, v⟩ := R
        cases nb <;> cases pb
        · have HF := Lib.hid (show (u, v) = fracOf false (X + Y) Z from HF.out.trans (by rw [if_pos rfl]))
          have HMA := Lib.hid (fun w => HMA.out false w)
          rw [← HF.out] at HMA
          go_wp2_with fail
          refine wp_region_last 6 _ (by kernel_rfl) rfl (by kernel_rfl) (by kernel_rfl) ?_
          simp only [headOf, hush, List.take_succ_cons, List.take_zero, List.cons_append, List.nil_append, List.drop_succ_cons, List.drop_zero]
          repeat (go_big_quiet_step ((first | (go_at_call 108; first | with_reducible exact calls_grow2 (HA.out _) | with_reducible exact calls_grow (HA.out _)) | (go_at_call 67; first | with_reducible exact calls_grow2 (HMA.out _) | with_reducible exact calls_grow (HMA.out _)))))
          refine wpQuiet_nil ?_
          rintro _ ⟨m7, rfl⟩
          go_wp2_with fail
          exact bodyPost_ret (v := .agg #[.int .i64 u, .int .i64 v]) (by simp [results, Try.results89, go_sem, cr0, cr1, lcr]) rfl ⟨rfl, ((below_grow hM3.below _).setCell (by first | omega | (simp; done) | (simp; omega)) _).setCell (by first | omega | (simp; done) | (simp; omega)) _⟩
        · by_cases c : X < Y
          · have hl := fun w => HL.out w
            rw [show decide (X < Y) = true by simpa using c] at hl
            have HL2 := Lib.hid hl
            have HF := Lib.hid (show (u, v) = fracOf true (Y - X) Z from HF.out.trans (by rw [if_neg (by decide), if_pos c]))
            have HMA := Lib.hid (fun w => HMS2.out true w)
            rw [← HF.out] at HMA
            have HA := Lib.hid (HS2.out (by omega))
            clear hl
            go_wp2_with fail
            ((with_reducible refine (HL2.out _).mono ?_); rintro e w' ⟨rfl, hbw⟩)
            obtain ⟨m6, rfl⟩ := grow_mk hbw
            clear hbw
            go_wp2_with fail
            refine wp_region_last 6 _ (by kernel_rfl) rfl (by kernel_rfl) (by kernel_rfl) ?_
            simp only [headOf, hush, List.take_succ_cons, List.take_zero, List.cons_append, List.nil_append, List.drop_succ_cons, List.drop_zero]
            repeat (go_big_quiet_step ((first | (go_at_call 109; first | with_reducible exact calls_grow2 (HA.out _) | with_reducible exact calls_grow (HA.out _)) | (go_at_call 67; first | with_reducible exact calls_grow2 (HMA.out _) | with_reducible exact calls_grow (HMA.out _)))))
            refine wpQuiet_nil ?_
            rintro _ ⟨m7, rfl⟩
            go_wp2_with fail
            exact bodyPost_ret (v := .agg #[.int .i64 u, .int .i64 v]) (by simp [results, Try.results89, go_sem, cr0, cr1, lcr]) rfl ⟨rfl, ((below_grow hM3.below _).setCell (by first | omega | (simp; done) | (simp; omega)) _).setCell (by first | omega | (simp; done) | (simp; omega)) _⟩
          · have hl := fun w => HL.out w
            rw [show decide (X < Y) = false by simpa using c] at hl
            have HL2 := Lib.hid hl
            have HF := Lib.hid (show (u, v) = fracOf false (X - Y) Z from HF.out.trans (by rw [if_neg (by decide), if_neg c]))
            have HMA := Lib.hid (fun w => HMS1.out false w)
            rw [← HF.out] at HMA
            have HA := Lib.hid (HS1.out (by omega))
            clear hl
            go_wp2_with fail
            ((with_reducible refine (HL2.out _).mono ?_); rintro e w' ⟨rfl, hbw⟩)
            obtain ⟨m6, rfl⟩ := grow_mk hbw
            clear hbw
            go_wp2_with fail
            refine wp_region_last 6 _ (by kernel_rfl) rfl (by kernel_rfl) (by kernel_rfl) ?_
            simp only [headOf, hush, List.take_succ_cons, List.take_zero, List.cons_append, List.nil_append, List.drop_succ_cons, List.drop_zero]
            repeat (go_big_quiet_step ((first | (go_at_call 109; first | with_reducible exact calls_grow2 (HA.out _) | with_reducible exact calls_grow (HA.out _)) | (go_at_call 67; first | with_reducible exact calls_grow2 (HMA.out _) | with_reducible exact calls_grow (HMA.out _)))))
            refine wpQuiet_nil ?_
            rintro _ ⟨m7, rfl⟩
            go_wp2_with fail
            exact bodyPost_ret (v := .agg #[.int .i64 u, .int .i64 v]) (by simp [results, Try.results89, go_sem, cr0, cr1, lcr]) rfl ⟨rfl, ((below_grow hM3.below _).setCell (by first | omega | (simp; done) | (simp; omega)) _).setCell (by first | omega | (simp; done) | (simp; omega)) _⟩
        · by_cases c : X < Y
          · have hl := fun w => HL.out w
            rw [show decide (X < Y) = true by simpa using c] at hl
            have HL2 := Lib.hid hl
            have HF := Lib.hid (show (u, v) = fracOf false (Y - X) Z from HF.out.trans (by rw [if_neg (by decide), if_pos c]))
            have HMA := Lib.hid (fun w => HMS2.out false w)
            rw [← HF.out] at HMA
            have HA := Lib.hid (HS2.out (by omega))
            clear hl
            go_wp2_with fail
            ((with_reducible refine (HL2.out _).mono ?_); rintro e w' ⟨rfl, hbw⟩)
            obtain ⟨m6, rfl⟩ := grow_mk hbw
            clear hbw
            go_wp2_with fail
            refine wp_region_last 6 _ (by kernel_rfl) rfl (by kernel_rfl) (by kernel_rfl) ?_
            simp only [headOf, hush, List.take_succ_cons, List.take_zero, List.cons_append, List.nil_append, List.drop_succ_cons, List.drop_zero]
            repeat (go_big_quiet_step ((first | (go_at_call 109; first | with_reducible exact calls_grow2 (HA.out _) | with_reducible exact calls_grow (HA.out _)) | (go_at_call 67; first | with_reducible exact calls_grow2 (HMA.out _) | with_reducible exact calls_grow (HMA.out _)))))
            refine wpQuiet_nil ?_
            rintro _ ⟨m7, rfl⟩
            go_wp2_with fail
            exact bodyPost_ret (v := .agg #[.int .i64 u, .int .i64 v]) (by simp [results, Try.results89, go_sem, cr0, cr1, lcr]) rfl ⟨rfl, ((below_grow hM3.below _).setCell (by first | omega | (simp; done) | (simp; omega)) _).setCell (by first | omega | (simp; done) | (simp; omega)) _⟩
          · have hl := fun w => HL.out w
            rw [show decide (X < Y) = false by simpa using c] at hl
            have HL2 := Lib.hid hl
            have HF := Lib.hid (show (u, v) = fracOf true (X - Y) Z from HF.out.trans (by rw [if_neg (by decide), if_neg c]))
            have HMA := Lib.hid (fun w => HMS1.out true w)
            rw [← HF.out] at HMA
            have HA := Lib.hid (HS1.out (by omega))
            clear hl
            go_wp2_with fail
            ((with_reducible refine (HL2.out _).mono ?_); rintro e w' ⟨rfl, hbw⟩)
            obtain ⟨m6, rfl⟩ := grow_mk hbw
            clear hbw
            go_wp2_with fail
            refine wp_region_last 6 _ (by kernel_rfl) rfl (by kernel_rfl) (by kernel_rfl) ?_
            simp only [headOf, hush, List.take_succ_cons, List.take_zero, List.cons_append, List.nil_append, List.drop_succ_cons, List.drop_zero]
            repeat (go_big_quiet_step ((first | (go_at_call 109; first | with_reducible exact calls_grow2 (HA.out _) | with_reducible exact calls_grow (HA.out _)) | (go_at_call 67; first | with_reducible exact calls_grow2 (HMA.out _) | with_reducible exact calls_grow (HMA.out _)))))
            refine wpQuiet_nil ?_
            rintro _ ⟨m7, rfl⟩
            go_wp2_with fail
            exact bodyPost_ret (v := .agg #[.int .i64 u, .int .i64 v]) (by simp [results, Try.results89, go_sem, cr0, cr1, lcr]) rfl ⟨rfl, ((below_grow hM3.below _).setCell (by first | omega | (simp; done) | (simp; omega)) _).setCell (by first | omega | (simp; done) | (simp; omega)) _⟩
        · have HF := Lib.hid (show (u, v) = fracOf true (X + Y) Z from HF.out.trans (by rw [if_pos rfl]))
          have HMA := Lib.hid (fun w => HMA.out true w)
          rw [← HF.out] at HMA
          go_wp2_with fail
          refine wp_region_last 6 _ (by kernel_rfl) rfl (by kernel_rfl) (by kernel_rfl) ?_
          simp only [headOf, hush, List.take_succ_cons, List.take_zero, List.cons_append, List.nil_append, List.drop_succ_cons, List.drop_zero]
          repeat (go_big_quiet_step ((first | (go_at_call 108; first | with_reducible exact calls_grow2 (HA.out _) | with_reducible exact calls_grow (HA.out _)) | (go_at_call 67; first | with_reducible exact calls_grow2 (HMA.out _) | with_reducible exact calls_grow (HMA.out _)))))
          refine wpQuiet_nil ?_
          rintro _ ⟨m7, rfl⟩
          go_wp2_with fail
          exact bodyPost_ret (v := .agg #[.int .i64 u, .int .i64 v]) (by simp [results, Try.results89, go_sem, cr0, cr1, lcr]) rfl ⟨rfl, ((below_grow hM3.below _).setCell (by first | omega | (simp; done) | (simp; omega)) _).setCell (by first | omega | (simp; done) | (simp; omega)) _⟩

end Go.Proofs.Ytgjhaanpkfheeaa
