/- RatLowest's walk. -/
import Derived.Test.YtgjhaanpkfheeaaLowestM
namespace Go.Proofs.Ytgjhaanpkfheeaa
set_option linter.unusedVariables false
set_option linter.unusedSimpArgs false
open Go.RowKit

set_option maxRecDepth 20000 in
set_option maxHeartbeats 4000000 in
theorem law_ratLowest (a b : Rt) (x y : Int) (w : World) (ha : Is64 a) (hb : Is64 b) (hxy : Is64 (x, y)) :
    Calls Try.prog 17 #[rv a, rv b, .int .i64 x, .int .i64 y] w fun e w' => e = .returned (.bool true) ∧ Below w.heap.size w w' := by
  have HW := Lib.hid (fun w => awakeR_any w)
  have HM24 := Lib.hid (fun w => may_any (2, 4) w (is64_small (by decide)))
  rw [show mayB (2, 4) = false by decide] at HM24
  have hof := fun w => of_any x y w hxy
  have had := fun W k t (h : Blk W k t #[.int .i64 a.1, .int .i64 a.2, .int .i64 b.1, .int .i64 b.2]) => add_any W (rats_blk h ha hb)
  have hsb := fun w => sub_any a b w ha hb
  have hml := fun W k t (h : Blk W k t #[.int .i64 a.1, .int .i64 a.2, .int .i64 b.1, .int .i64 b.2]) => mul_any W (rats_blk h ha hb)
  have hdv := fun w => div_any a b w ha hb
  have hng := fun w => neg_any a w ha
  have hle := fun W k t (h : Blk W k t #[.int .i64 a.1, .int .i64 a.2, .int .i64 b.1, .int .i64 b.2]) => least_any W (rats_blk h ha hb)
  have hmo := fun W k t (h : Blk W k t #[.int .i64 a.1, .int .i64 a.2, .int .i64 b.1, .int .i64 b.2]) => most_any W (rats_blk h ha hb)
  have ha1 := fun W k t (h : Blk W k t #[.int .i64 a.1, .int .i64 a.2]) => add_any W (rats_blk1 h ha)
  have hm1 := fun W k t (h : Blk W k t #[.int .i64 b.1, .int .i64 b.2]) => mul_any W (rats_blk1 h hb)
  have hall := lowest_all a b x y ha hb
  generalize ofF x y = o at *
  generalize foldR addF (0, 1) [a, b] = ad at *
  generalize subF a b = sb at *
  generalize foldR mulF (1, 1) [a, b] = ml at *
  generalize divF a b = dv at *
  generalize negF a = ng at *
  generalize firstG (-1) true (0, 0) [a, b] = le at *
  generalize firstG 1 true (0, 0) [a, b] = mo at *
  generalize foldR addF (0, 1) [a] = aa at *
  generalize foldR mulF (1, 1) [b] = mm at *
  obtain ⟨o1, o2⟩ := o; obtain ⟨ad1, ad2⟩ := ad; obtain ⟨sb1, sb2⟩ := sb; obtain ⟨ml1, ml2⟩ := ml; obtain ⟨dv1, dv2⟩ := dv; obtain ⟨ng1, ng2⟩ := ng; obtain ⟨le1, le2⟩ := le; obtain ⟨mo1, mo2⟩ := mo; obtain ⟨aa1, aa2⟩ := aa; obtain ⟨mm1, mm2⟩ := mm
  obtain ⟨n, d⟩ := a; obtain ⟨p, q⟩ := b
  have HOF := Lib.hid hof
  have HAD := Lib.hid had
  have HSB := Lib.hid hsb
  have HML := Lib.hid hml
  have HDV := Lib.hid hdv
  have HNG := Lib.hid hng
  have HLE := Lib.hid hle
  have HMO := Lib.hid hmo
  have HA1 := Lib.hid ha1
  have HM1 := Lib.hid hm1
  have HALL := Lib.hid hall
  clear hof had hsb hml hdv hng hle hmo ha1 hm1 hall
  go_enter Try.func17, Try.ntmps17
  go_wp2_with fail
  refine wp_region_loose 36 [Loose.rowL 5 18 23 2 #[.int .i64 n, .int .i64 d, .int .i64 p, .int .i64 q] (w.heap.size + 2), Loose.rowL 12 25 23 2 #[.int .i64 n, .int .i64 d, .int .i64 p, .int .i64 q] (w.heap.size + 2), Loose.rowL 21 34 23 2 #[.int .i64 n, .int .i64 d, .int .i64 p, .int .i64 q] (w.heap.size + 2), Loose.rowL 25 38 23 2 #[.int .i64 n, .int .i64 d, .int .i64 p, .int .i64 q] (w.heap.size + 2), Loose.rowL 28 41 23 1 #[.int .i64 n, .int .i64 d] (w.heap.size + 2), Loose.rowL 31 44 23 1 #[.int .i64 p, .int .i64 q] (w.heap.size + 2), Loose.rowL 33 46 23 10 #[.int .i64 o1, .int .i64 o2, .int .i64 ad1, .int .i64 ad2, .int .i64 sb1, .int .i64 sb2, .int .i64 ml1, .int .i64 ml2, .int .i64 dv1, .int .i64 dv2, .int .i64 ng1, .int .i64 ng2, .int .i64 le1, .int .i64 le2, .int .i64 mo1, .int .i64 mo2, .int .i64 aa1, .int .i64 aa2, .int .i64 mm1, .int .i64 mm2] (w.heap.size + 2), Loose.claim 2 15 (.agg #[.int .i64 o1, .int .i64 o2]), Loose.claim 6 19 (.agg #[.int .i64 ad1, .int .i64 ad2]), Loose.claim 9 22 (.agg #[.int .i64 sb1, .int .i64 sb2]), Loose.claim 13 26 (.agg #[.int .i64 ml1, .int .i64 ml2]), Loose.claim 16 29 (.agg #[.int .i64 dv1, .int .i64 dv2]), Loose.claim 18 31 (.agg #[.int .i64 ng1, .int .i64 ng2]), Loose.claim 22 35 (.agg #[.int .i64 le1, .int .i64 le2]), Loose.claim 26 39 (.agg #[.int .i64 mo1, .int .i64 mo2]), Loose.claim 29 42 (.agg #[.int .i64 aa1, .int .i64 aa2]), Loose.claim 32 45 (.agg #[.int .i64 mm1, .int .i64 mm2]), Loose.claim 34 47 (.int .i64 10)] (by kernel_rfl) rfl (by kernel_rfl) (by kernel_rfl) (by kernel_rfl) (by kernel_rfl) ?_
  simp only [headL, hushL, List.find?, Loose.claim_i, Loose.cells_i, Loose.rowL_i, Loose.claim_hush, Loose.cells_hush, Loose.rowL_hush, Nat.reduceBEq, Nat.reduceAdd]
  repeat (go_big_quiet_step (fail))
  refine wpQuiet_nil ⟨fun V m => ?_, fun V m => ?_⟩
  · simp only [obs_cons, obs_nil, List.getElem?_cons_zero, List.getElem?_cons_succ, fill_nil, fill_claim, fill_cells, fill_rowL, Loose.claim_i, Loose.cells_i, Loose.rowL_i, Act.put, List.setIfInBounds_toArray, List.set_cons_zero, List.set_cons_succ]
    have hsz := grow_size m
    simp at hsz
    refine ⟨fun _ => ?_, fun _ => ?_, fun _ => ?_, fun _ => ?_, fun _ => ?_, fun _ => ?_, fun _ => ?_, fun hw => ?_, fun hw => ?_, fun hw => ?_, fun hw => ?_, fun hw => ?_, fun hw => ?_, fun hw => ?_, fun hw => ?_, fun hw => ?_, fun hw => ?_, fun hw => ?_, trivial⟩
    · go_wp2_with fail
      exact post_rowL rfl (by omega)
    · go_wp2_with fail
      exact post_rowL rfl (by omega)
    · go_wp2_with fail
      exact post_rowL rfl (by omega)
    · go_wp2_with fail
      exact post_rowL rfl (by omega)
    · go_wp2_with fail
      exact post_rowL rfl (by omega)
    · go_wp2_with fail
      exact post_rowL rfl (by omega)
    · go_wp2_with fail
      exact post_rowL rfl (by omega)
    · clear hw
      go_wp2_with fail
      ((with_reducible refine (HOF.out _).mono ?_); rintro e w' ⟨rfl, hbw⟩)
      obtain ⟨m4, rfl⟩ := grow_mk hbw
      clear hbw
      go_wp2_with fail
      exact post_claim rfl (grow_trans_below _ _)
    · obtain ⟨h3, _⟩ := hw
      obtain ⟨b, hv, hk, hB⟩ := h3 (by kernel_rfl)
      change V 5 = _ at hv
      rw [hv]
      clear hv h3
      go_wp2_with fail
      ((with_reducible refine (HAD.out _ _ _ hB).mono ?_); rintro e w' ⟨rfl, hbw⟩)
      obtain ⟨m4, rfl⟩ := grow_mk hbw
      clear hbw
      go_wp2_with fail
      exact post_claim rfl (grow_trans_below _ _)
    · clear hw
      go_wp2_with fail
      ((with_reducible refine (HSB.out _).mono ?_); rintro e w' ⟨rfl, hbw⟩)
      obtain ⟨m4, rfl⟩ := grow_mk hbw
      clear hbw
      go_wp2_with fail
      exact post_claim rfl (grow_trans_below _ _)
    · obtain ⟨_, h3, _⟩ := hw
      obtain ⟨b, hv, hk, hB⟩ := h3 (by kernel_rfl)
      change V 12 = _ at hv
      rw [hv]
      clear hv h3
      go_wp2_with fail
      ((with_reducible refine (HML.out _ _ _ hB).mono ?_); rintro e w' ⟨rfl, hbw⟩)
      obtain ⟨m4, rfl⟩ := grow_mk hbw
      clear hbw
      go_wp2_with fail
      exact post_claim rfl (grow_trans_below _ _)
    · clear hw
      go_wp2_with fail
      ((with_reducible refine (HDV.out _).mono ?_); rintro e w' ⟨rfl, hbw⟩)
      obtain ⟨m4, rfl⟩ := grow_mk hbw
      clear hbw
      go_wp2_with fail
      exact post_claim rfl (grow_trans_below _ _)
    · clear hw
      go_wp2_with fail
      ((with_reducible refine (HNG.out _).mono ?_); rintro e w' ⟨rfl, hbw⟩)
      obtain ⟨m4, rfl⟩ := grow_mk hbw
      clear hbw
      go_wp2_with fail
      exact post_claim rfl (grow_trans_below _ _)
    · obtain ⟨_, _, h3, _⟩ := hw
      obtain ⟨b, hv, hk, hB⟩ := h3 (by kernel_rfl)
      change V 21 = _ at hv
      rw [hv]
      clear hv h3
      go_wp2_with fail
      ((with_reducible refine (HLE.out _ _ _ hB).mono ?_); rintro e w' ⟨rfl, hbw⟩)
      obtain ⟨m4, rfl⟩ := grow_mk hbw
      clear hbw
      go_wp2_with fail
      exact post_claim rfl (grow_trans_below _ _)
    · obtain ⟨_, _, _, h3, _⟩ := hw
      obtain ⟨b, hv, hk, hB⟩ := h3 (by kernel_rfl)
      change V 25 = _ at hv
      rw [hv]
      clear hv h3
      go_wp2_with fail
      ((with_reducible refine (HMO.out _ _ _ hB).mono ?_); rintro e w' ⟨rfl, hbw⟩)
      obtain ⟨m4, rfl⟩ := grow_mk hbw
      clear hbw
      go_wp2_with fail
      exact post_claim rfl (grow_trans_below _ _)
    · obtain ⟨_, _, _, _, h3, _⟩ := hw
      obtain ⟨b, hv, hk, hB⟩ := h3 (by kernel_rfl)
      change V 28 = _ at hv
      rw [hv]
      clear hv h3
      go_wp2_with fail
      ((with_reducible refine (HA1.out _ _ _ hB).mono ?_); rintro e w' ⟨rfl, hbw⟩)
      obtain ⟨m4, rfl⟩ := grow_mk hbw
      clear hbw
      go_wp2_with fail
      exact post_claim rfl (grow_trans_below _ _)
    · obtain ⟨_, _, _, _, _, h3, _⟩ := hw
      obtain ⟨b, hv, hk, hB⟩ := h3 (by kernel_rfl)
      change V 31 = _ at hv
      rw [hv]
      clear hv h3
      go_wp2_with fail
      ((with_reducible refine (HM1.out _ _ _ hB).mono ?_); rintro e w' ⟨rfl, hbw⟩)
      obtain ⟨m4, rfl⟩ := grow_mk hbw
      clear hbw
      go_wp2_with fail
      exact post_claim rfl (grow_trans_below _ _)
    · obtain ⟨_, _, _, _, _, _, h3, _⟩ := hw
      obtain ⟨b, hv, hk, hB⟩ := h3 (by kernel_rfl)
      change V 33 = _ at hv
      rw [hv]
      clear hv h3
      go_wp2_with fail
      exact post_claim rfl (Below.refl _ _)
  · simp only [laws_nil, laws_claim, laws_cells, laws_rowL, dist_nil, dist_claim, dist_cells, dist_rowL, dist1_nil, dist1_claim, dist1_cells, dist1_rowL, dist1_cells_rowL, dist1_rowL_cells, List.drop_succ_cons, List.drop_zero, and_true, fill_nil, fill_claim, fill_cells, fill_rowL, Loose.claim_i, Loose.cells_i, Loose.rowL_i, Act.put, List.setIfInBounds_toArray, List.set_cons_zero, List.set_cons_succ]
    rintro ⟨_, _, _, _, _, _, g, hg, hk, hX⟩ _
    rw [hg]
    clear hg
    have hb0 : Below w.heap.size w (grow ((w.alloc (.cells #[.int .i64 n, .int .i64 d] 23)).alloc (.cells #[.int .i64 p, .int .i64 q] 23)) m) := below_grow ((below_box _ _).alloc (by simp) _) m
    have hR := rats_blk10 (x0 := (o1, o2)) (x1 := (ad1, ad2)) (x2 := (sb1, sb2)) (x3 := (ml1, ml2)) (x4 := (dv1, dv2)) (x5 := (ng1, ng2)) (x6 := (le1, le2)) (x7 := (mo1, mo2)) (x8 := (aa1, aa2)) (x9 := (mm1, mm2)) hX (fun r hr => (HALL.out r hr).2)
    obtain ⟨L, hL⟩ : ∃ L : List Rt, L = [(o1, o2), (ad1, ad2), (sb1, sb2), (ml1, ml2), (dv1, dv2), (ng1, ng2), (le1, le2), (mo1, mo2), (aa1, aa2), (mm1, mm2)] := ⟨_, rfl⟩
    rw [← hL] at hR HALL
    have hlen : L.length = 10 := by rw [hL]; rfl
    clear hL hX HOF HAD HSB HML HDV HNG HLE HMO HA1 HM1
    generalize grow _ m = wq at *
    have HR := Lib.hid hR
    have HB := Lib.hid hb0
    have hgl := hR.lt (by decide)
    clear hR hb0 hk
    go_wp2_with fail
    go_loopg [48] 10 (fun k s wx => ∃ i : Nat, s = .int .i64 i ∧ Hid (Below wq.heap.size wq wx) ∧ i ≤ 10 ∧ 10 - i ≤ k)
    case atStart => exact ⟨0, rfl, Lib.hid (Below.refl _ _), by omega, by omega⟩
    case round =>
      obtain ⟨i, rfl, hbx, hi10, hm⟩ := hrel
      by_cases hi : i < 10
      · have hr : L[i]? = some (L[i]'(by omega)) := List.getElem?_eq_getElem (by omega)
        have hR2 := HR.out.below hbx.out
        have e0 : wr.cell? ⟨g, i * 2, none⟩ = some (.int .i64 (L[i]'(by omega)).1) := by simpa using hR2.c0 i _ hr
        have e1 : wr.cell? ⟨g, i * 2 + 1, none⟩ = some (.int .i64 (L[i]'(by omega)).2) := by simpa using hR2.c1 i _ hr
        obtain ⟨hmay, h64⟩ := HALL.out (L[i]'(by omega)) (List.getElem_mem _)
        have hgl2 := hR2.lt (by decide)
        clear hr hR2
        generalize (L[i]'(by omega)) = z at *
        obtain ⟨x1, y1⟩ := z
        have hmz := fun w => may_any (x1, y1) w h64
        rw [hmay] at hmz
        have HMZ := Lib.hid hmz
        simp only at e0 e1
        clear hmz
        go_upto_region 4 with fail
        have hx := Blk.new wr 23 #[.int .i64 x1, .int .i64 y1]
        have hbn := hbx.out.alloc hbx.out.size (.cells #[.int .i64 x1, .int .i64 y1] 23)
        clear e0 e1 hgl2
        generalize wr.heap.size = gx at *
        generalize wr.alloc _ = wa at *
        have cx0 : wa.cell? ⟨gx, 0, none⟩ = some (.int .i64 x1) := (hx).cell 0
        have fcx0 := (hx).frozen 0
        have cx1 : wa.cell? ⟨gx, 1, none⟩ = some (.int .i64 y1) := (hx).cell 1
        have fcx1 := (hx).frozen 1
        have lcx := (hx).lt
        go_wp2_with fail
        ((with_reducible refine (HMZ.out _).mono ?_); rintro e w' ⟨rfl, hbw⟩)
        obtain ⟨m1, rfl⟩ := grow_mk hbw
        clear hbw
        go_wp2_with fail
        refine wp_region_grow (by kernel_rfl) (by kernel_rfl) ?_
        repeat (go_big_quiet_step (fail))
        refine wpQuiet_nil ?_
        rintro _ ⟨m2, rfl⟩
        rw [grow_grow]
        replace hbn := below_grow hbn (m1.trans m2)
        generalize grow wa (m1.trans m2) = wb at *
        have HBN := Lib.hid hbn
        clear hbn hx cx0 cx1 fcx0 fcx1 lcx HMZ
        have hcase : (x1 = 0 ∧ y1 = 0) ∨ sureB (x1, y1) = true := by
          unfold mayB at hmay
          simp only [Bool.or_eq_true, Bool.and_eq_true, decide_eq_true_eq] at hmay
          exact hmay
        clear hmay
        rcases hcase with ⟨rfl, rfl⟩ | hsz
        · go_wp2_with fail
          go_roundg (10 - (i + 1))
          case measure => omega
          case rel => exact ⟨i + 1, by go_num, HBN, by omega, by omega⟩
        · obtain ⟨s1, s2, s3⟩ := sureB_iff.1 hsz
          obtain ⟨b1, b2, b3, b4⟩ := h64
          simp only at s1 s2 s3 b1 b2 b3 b4
          have t1 : (y1 == 0) = false := by rw [beq_eq_false_iff_ne]; omega
          have t2 : decide (y1 < 1) = false := by simp; omega
          have t3 : (x1 == -9223372036854775808) = false := by rw [beq_eq_false_iff_ne]; exact s2
          obtain ⟨A, hA⟩ : ∃ v : Nat, v = x1.natAbs := ⟨_, rfl⟩
          obtain ⟨B, hB⟩ : ∃ v : Nat, v = y1.toNat := ⟨_, rfl⟩
          have hBy : y1 = (B : Int) := by omega
          have hbA : A ≤ 9223372036854775807 := by omega
          have hbB : B ≤ 9223372036854775807 := by omega
          rw [← hA, ← hB] at s3
          subst hBy
          clear hB hsz
          by_cases hx1 : x1 < 0
          · have e4 : -x1 = (A : Int) := by omega
            have t4 : decide (x1 < 0) = true := by simpa using hx1
            clear hA
            go_wp2_with fail
            go_loopg [11, 12] A (fun k s t wx => ∃ X Y : Nat, s = .int .i64 X ∧ t = .int .i64 Y ∧ wx = wb ∧ X ≤ 9223372036854775807 ∧ Y ≤ 9223372036854775807 ∧ Hid (Nat.gcd X Y = 1) ∧ X ≤ k)
            case atStart => exact ⟨A, B, rfl, rfl, rfl, hbA, hbB, Lib.hid s3, Nat.le_refl _⟩
            case round =>
              obtain ⟨X, Y, rfl, rfl, rfl, bX, bY, hg, hk2⟩ := hrel
              by_cases hX : 0 < X
              · have hml := Nat.mod_lt Y hX
                go_wp2_with fail
                go_roundg (Y % X)
                case measure => omega
                case rel => exact ⟨Y % X, X, by go_num, rfl, rfl, by omega, bX, Lib.hid (by rw [← hg.out, Nat.gcd_rec X Y]), Nat.le_refl _⟩
              · obtain rfl : X = 0 := by omega
                obtain rfl : Y = 1 := by rw [← hg.out, Nat.gcd_zero_left]
                go_wp2_with fail
                go_roundg (10 - (i + 1))
                case measure => omega
                case rel => exact ⟨i + 1, by go_num, HBN, by omega, by omega⟩
          · obtain rfl : x1 = (A : Int) := by omega
            have t4 : decide ((A : Int) < 0) = false := by simp
            clear hA hx1 s2
            go_wp2_with fail
            go_loopg [11, 12] A (fun k s t wx => ∃ X Y : Nat, s = .int .i64 X ∧ t = .int .i64 Y ∧ wx = wb ∧ X ≤ 9223372036854775807 ∧ Y ≤ 9223372036854775807 ∧ Hid (Nat.gcd X Y = 1) ∧ X ≤ k)
            case atStart => exact ⟨A, B, rfl, rfl, rfl, hbA, hbB, Lib.hid s3, Nat.le_refl _⟩
            case round =>
              obtain ⟨X, Y, rfl, rfl, rfl, bX, bY, hg, hk2⟩ := hrel
              by_cases hX : 0 < X
              · have hml := Nat.mod_lt Y hX
                go_wp2_with fail
                go_roundg (Y % X)
                case measure => omega
                case rel => exact ⟨Y % X, X, by go_num, rfl, rfl, by omega, bX, Lib.hid (by rw [← hg.out, Nat.gcd_rec X Y]), Nat.le_refl _⟩
              · obtain rfl : X = 0 := by omega
                obtain rfl : Y = 1 := by rw [← hg.out, Nat.gcd_zero_left]
                go_wp2_with fail
                go_roundg (10 - (i + 1))
                case measure => omega
                case rel => exact ⟨i + 1, by go_num, HBN, by omega, by omega⟩
      · obtain rfl : i = 10 := by omega
        have hb2 := HB.out.trans (hbx.out.mono HB.out.size)
        go_wp2_with fail
        ((with_reducible refine (HW.out _).mono ?_); rintro e w' ⟨rfl, hbw⟩)
        obtain ⟨m1, rfl⟩ := grow_mk hbw
        clear hbw
        go_wp2_with fail
        ((with_reducible refine (HM24.out _).mono ?_); rintro e w' ⟨rfl, hbw⟩)
        obtain ⟨m2, rfl⟩ := grow_mk hbw
        clear hbw
        go_wp2_with fail
        go_ret
        exact ⟨rfl, below_grow (below_grow hb2 _) _⟩

end Go.Proofs.Ytgjhaanpkfheeaa
