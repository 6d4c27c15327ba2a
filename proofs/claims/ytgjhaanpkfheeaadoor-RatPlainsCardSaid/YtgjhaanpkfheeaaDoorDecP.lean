/- Numbers of a stylesheet: the program's reading of one, walked. -/
import Derived.Test.YtgjhaanpkfheeaaDoorDecC
import Derived.Test.YtgjhaanpkfheeaaDoorDecE
import Derived.Test.YtgjhaanpkfheeaaDoorDecS
import Derived.Deep.RegionHeld3
import Derived.Test.YtgjhaanpkfheeaaDoorDecT
import Derived.Test.YtgjhaanpkfheeaaDoorTextQ
namespace Go.Proofs.YtgjhaanpkfheeaaDoor
set_option linter.unusedVariables false
set_option linter.unusedSimpArgs false
open Go.RowKit Go.Lib

set_option maxRecDepth 20000 in
set_option maxHeartbeats 8000000 in
theorem decimal_any (s : List UInt8) (w : World) (hl : s.length ≤ 1048576) :
    Calls Tryd.prog 19 #[.string ⟨s.toArray⟩] w fun e w' => e = .returned (.tuple #[rv (decimalF s).1, .bool (decimalF s).2.1, .int .i64 (errF (decimalF s).2.2)]) ∧ Below w.heap.size w w' := by
  obtain ⟨DF, hDF⟩ : ∃ x, decimalF s = x := ⟨_, rfl⟩
  rw [hDF]
  have hc := fun w => cut_parts s w (by omega)
  obtain ⟨PR, hPR⟩ : ∃ x, partsF s = x := ⟨_, rfl⟩
  rw [hPR] at hc
  have HC := Lib.hid hc
  have HPR := Lib.hid hPR
  have HDF := Lib.hid hDF
  clear hc hPR hDF
  go_enter Tryd.func19, Tryd.ntmps19
  go_upto_region 1 with fail
  have hr : Blk (w.alloc (.cells #[.int .i64 0, .int .i64 0] 23)) w.heap.size 23 #[.int .i64 0, .int .i64 0] := Blk.new _ _ _
  have hb : Below w.heap.size w (w.alloc (.cells #[.int .i64 0, .int .i64 0] 23)) := below_box _ _
  generalize w.alloc _ = wa at *
  go_wp2_with fail
  ((with_reducible refine (HC.out _).mono ?_); rintro e w' ⟨⟨b, S, x, y, z, rfl, hq⟩, hbw⟩)
  obtain ⟨m1, rfl⟩ := grow_mk hbw
  have HQ := Lib.hid hq
  clear hbw hq HC
  replace hb := below_grow hb m1
  replace hr := hr.grow m1
  generalize grow wa m1 = wb at *
  cases PR with
  | none =>
    have HF := Lib.hid (show DF = ((0, 0), false, false) by rw [← HDF.out]; exact decimal_none HPR.out)
    have cr0 : wb.cell? ⟨w.heap.size, 0, none⟩ = some (.int .i64 0) := (hr).cell 0
    have fcr0 := (hr).frozen 0
    have cr1 : wb.cell? ⟨w.heap.size, 1, none⟩ = some (.int .i64 0) := (hr).cell 1
    have fcr1 := (hr).frozen 1
    have lcr := (hr).lt
    go_wp2_with fail
    exact bodyPost_ret (v := .tuple #[.agg #[.int .i64 0, .int .i64 0], .bool false, .int .i64 3]) (by simp [results, Tryd.results19, go_sem, cr0, cr1, lcr]) rfl ⟨(by rw [HF.out]; rfl), (by repeat (first | with_reducible exact hb | (with_reducible refine Below.setCell ?_ ?hq _; case hq => first | (simp; done) | (simp; omega)) | with_reducible refine Below.drew ?_ | with_reducible refine below_alloc_self ?_ _ | with_reducible refine below_grow ?_ _))⟩
  | some q =>
    have hqe := HQ.out q rfl
    obtain ⟨rfl, hx0⟩ := hqe
    obtain ⟨k, rfl⟩ : ∃ k : Nat, x = (k : Int) := ⟨x.toNat, by omega⟩
    rw [Int.toNat_natCast] at HPR
    obtain ⟨b1, b2, b3, b4, b5⟩ := parts_bounds HPR.out
    have HDS := Lib.hid (show DF = (valueF b S (y - k), z, true) by rw [← HDF.out]; exact decimal_some HPR.out)
    obtain ⟨d, hd⟩ : ∃ x, S.dropWhile (· == 48) = x := ⟨_, rfl⟩
    have hdl : d.length ≤ S.length := by rw [← hd]; exact (List.dropWhile_suffix _).length_le
    have htl := fun w => trimL_any S w
    rw [hd] at htl
    have HTL := Lib.hid htl
    have HD := Lib.hid hd
    have HB1 := Lib.hid b1
    clear htl hd HQ HDF b1
    have hv : Blk (wb.alloc (.cells #[.bool b, .string ⟨S.toArray⟩, .int .i64 k, .int .i64 y, .bool z] 55)) wb.heap.size 55 #[.bool b, .string ⟨S.toArray⟩, .int .i64 k, .int .i64 y, .bool z] := Blk.new _ _ _
    replace hb : Below w.heap.size w (wb.alloc (.cells #[.bool b, .string ⟨S.toArray⟩, .int .i64 k, .int .i64 y, .bool z] 55)) := below_alloc_self hb _
    have hrl := hr.lt
    replace hr : Blk (wb.alloc (.cells #[.bool b, .string ⟨S.toArray⟩, .int .i64 k, .int .i64 y, .bool z] 55)) w.heap.size 23 #[.int .i64 0, .int .i64 0] := hr.old _
    go_upto_region 4 with fail
    obtain ⟨B, hBe⟩ : ∃ x, wb.heap.size = x := ⟨_, rfl⟩
    rw [hBe] at hv hrl ⊢
    clear hBe
    generalize wb.alloc _ = wb at *
    have cr0 : wb.cell? ⟨w.heap.size, 0, none⟩ = some (.int .i64 0) := (hr).cell 0
    have fcr0 := (hr).frozen 0
    have cr1 : wb.cell? ⟨w.heap.size, 1, none⟩ = some (.int .i64 0) := (hr).cell 1
    have fcr1 := (hr).frozen 1
    have lcr := (hr).lt
    have cv0 : wb.cell? ⟨B, 0, none⟩ = some (.bool b) := (hv).cell 0
    have fcv0 := (hv).frozen 0
    have cv1 : wb.cell? ⟨B, 1, none⟩ = some (.string ⟨S.toArray⟩) := (hv).cell 1
    have fcv1 := (hv).frozen 1
    have cv2 : wb.cell? ⟨B, 2, none⟩ = some (.int .i64 k) := (hv).cell 2
    have fcv2 := (hv).frozen 2
    have cv3 : wb.cell? ⟨B, 3, none⟩ = some (.int .i64 y) := (hv).cell 3
    have fcv3 := (hv).frozen 3
    have cv4 : wb.cell? ⟨B, 4, none⟩ = some (.bool z) := (hv).cell 4
    have fcv4 := (hv).frozen 4
    have lcv := (hv).lt
    go_wp2_with fail
    ((with_reducible refine (HTL.out _).mono ?_); rintro e w' ⟨rfl, rfl⟩)
    cases d with
    | nil =>
      have HF := Lib.hid (show DF = ((0, 1), z, true) by rw [HDS.out, value_nought HD.out])
      go_wp2_with fail
      go_region
      all_goals
        go_wp2_with fail
        exact bodyPost_ret (v := .tuple #[.agg #[.int .i64 0, .int .i64 1], .bool z, .int .i64 0]) (by simp [results, Tryd.results19, go_sem, cr0, cr1, lcr, cv0, cv1, cv2, cv3, cv4, lcv]) rfl ⟨(by rw [HF.out]; rfl), (by repeat (first | with_reducible exact hb | (with_reducible refine Below.setCell ?_ ?hq _; case hq => first | (simp; done) | (simp; omega)) | with_reducible refine Below.drew ?_ | with_reducible refine below_alloc_self ?_ _ | with_reducible refine below_grow ?_ _))⟩
    | cons d0 d =>
      have htr := fun w => trimR_any (d0 :: d) w (by omega)
      obtain ⟨core, hcore⟩ : ∃ x, trimR (d0 :: d) = x := ⟨_, rfl⟩
      have hcl := trim_len (d0 :: d)
      rw [hcore] at htr hcl
      have HTR := Lib.hid htr
      have HCO := Lib.hid hcore
      clear htr hcore
      obtain ⟨n, hn⟩ : ∃ x, core.length = x := ⟨_, rfl⟩
      by_cases h18 : 18 < n
      · have HF := Lib.hid (show DF = ((0, 0), z, true) by rw [HDS.out, value_long HD.out (by simp) (by rw [HCO.out, hn]; exact h18)])
        have g18 : decide ((18 : Int) < (core.length : Int)) = true := by rw [decide_eq_true_eq]; omega
        go_wp2_with fail
        ((with_reducible refine (HTR.out _).mono ?_); rintro e w' ⟨rfl, rfl⟩)
        go_wp2_with fail
        go_region
        all_goals
          go_wp2_with fail
          exact bodyPost_ret (v := .tuple #[.agg #[.int .i64 0, .int .i64 0], .bool z, .int .i64 0]) (by simp [results, Tryd.results19, go_sem, cr0, cr1, lcr, cv0, cv1, cv2, cv3, cv4, lcv]) rfl ⟨(by rw [HF.out]; rfl), (by repeat (first | with_reducible exact hb | (with_reducible refine Below.setCell ?_ ?hq _; case hq => first | (simp; done) | (simp; omega)) | with_reducible refine Below.drew ?_ | with_reducible refine below_alloc_self ?_ _ | with_reducible refine below_grow ?_ _))⟩
      · have g18 : decide ((18 : Int) < (core.length : Int)) = false := by rw [decide_eq_false_iff_not]; omega
        have hF0 : DF = (scaleF b (valD core) (y - k + ((d0 :: d).length - core.length : Nat)), z, true) := by rw [HDS.out, value_short HD.out (by simp) (by rw [HCO.out, hn]; exact h18), HCO.out]
        have hval := core_val HB1.out (by rw [HD.out]; simp) (by rw [HD.out, HCO.out, hn]; omega)
        rw [HD.out, HCO.out] at hval
        have hca : core.all isD = true := by rw [← HCO.out, ← HD.out]; exact trim_all (drop_all HB1.out)
        obtain ⟨L, hL⟩ : ∃ x, (d0 :: d).length = x := ⟨_, rfl⟩
        rw [hL] at hcl hdl hF0
        rw [hn] at hcl hF0
        have hL1 : d.length + 1 = L := hL
        obtain ⟨v, hvv⟩ : ∃ x, valD core = x := ⟨_, rfl⟩
        rw [hvv] at hval hF0
        obtain ⟨v1, v2⟩ := hval
        obtain ⟨p, hp⟩ : ∃ p : Int, y - k + ((L - n : Nat) : Int) = p := ⟨_, rfl⟩
        have ip : y - (k : Int) + ((L : Int) - (n : Int)) = p := by omega
        rw [hp] at hF0
        have hsc := fun w => scaled_any b v p w v1 v2 (by omega) (by omega)
        obtain ⟨X, hX⟩ : ∃ x, scaleF b v p = x := ⟨_, rfl⟩
        rw [hX] at hsc hF0
        obtain ⟨xa, xb⟩ := X
        have HSC := Lib.hid hsc
        have HF := Lib.hid hF0
        have HVV := Lib.hid hvv
        have HCA := Lib.hid hca
        have HNN := Lib.hid hn
        obtain ⟨cap, w1, hrun, hb1, hlt1, hcells⟩ := bytes_conv core wb
        rw [hn] at hrun
        have HCE := Lib.hid hcells
        clear hsc hF0 hvv hca hX hn hp hcells hL HDS
        go_wp2_with fail
        ((with_reducible refine (HTR.out _).mono ?_); rintro e w' ⟨rfl, rfl⟩)
        go_wp2_with fail
        clear fcr0 fcr1 lcr fcv0 fcv1 fcv2 fcv3 fcv4 lcv cr0 cr1 cv0 cv1 cv2 cv3 cv4
        obtain ⟨ex1, e2⟩ := grow_mk hb1
        subst e2
        replace hb := below_grow hb ex1
        replace hr := hr.grow ex1
        replace hv := hv.grow ex1
        clear hb1 hrun
        generalize grow wb ex1 = w1 at *
        generalize wb.heap.size = B2 at *
        go_loopg [39, 9] n (fun k s39 s9 wx => ∃ (j : Nat), s39 = .int .i64 j ∧ s9 = .int .u64 (valD (core.take j)) ∧ wx = w1 ∧ j ≤ n ∧ n - j ≤ k)
        case atStart => exact ⟨0, rfl, rfl, rfl, Nat.zero_le _, by omega⟩
        case round =>
          obtain ⟨j, rfl, rfl, rfl, hjn, hk⟩ := hrel
          by_cases hj : j < n
          · have gj : decide ((j : Int) < n) = true := by simpa using hj
            have hjl : j < core.length := by rw [HNN.out]; exact hj
            have hr0 : core[j]? = some (core[j]'hjl) := List.getElem?_eq_getElem hjl
            have hst : valD (core.take (j + 1)) = valD (core.take j) * 10 + ((core[j]'hjl).toNat - 48) := by
              rw [List.take_add_one, hr0]
              exact valD_snoc _ _
            have hcc := HCE.out j _ hr0
            have hdg : isD (core[j]'hjl) = true := List.all_eq_true.1 HCA.out _ (List.getElem_mem _)
            have hv0 : valD (core.take j) < 10 ^ 18 := by
              have h1 := val_lt (core.take j) (by rw [List.all_eq_true]; exact fun x hx => List.all_eq_true.1 HCA.out x (List.mem_of_mem_take hx))
              rw [List.length_take, Nat.min_eq_left (by omega)] at h1
              exact Nat.lt_of_lt_of_le h1 (Nat.pow_le_pow_right (by decide) (by omega))
            have hv2 : valD (core.take j) < 1000000000000000000 := hv0
            generalize core[j]'hjl = c9 at *
            simp only [isD, Bool.and_eq_true, decide_eq_true_eq] at hdg
            obtain ⟨c1, c2⟩ := hdg
            have HST := Lib.hid hst
            clear hst hr0 hv0
            generalize valD (core.take j) = u at *
            generalize c9.toNat = d9 at *
            go_wp2_with fail
            go_roundg (n - (j + 1))
            case measure => omega
            case rel => exact ⟨j + 1, by go_num, congrArg (Value.int .u64) (by rw [HST.out]; omega), rfl, hj, by omega⟩
          · obtain rfl : j = n := by omega
            rw [show core.take j = core from List.take_of_length_le (by rw [HNN.out]; exact Nat.le_refl _), HVV.out]
            have hn0 : core.length = j := HNN.out
            clear HCE hk hj hjn
            have cr0 : wr.cell? ⟨w.heap.size, 0, none⟩ = some (.int .i64 0) := (hr).cell 0
            have fcr0 := (hr).frozen 0
            have cr1 : wr.cell? ⟨w.heap.size, 1, none⟩ = some (.int .i64 0) := (hr).cell 1
            have fcr1 := (hr).frozen 1
            have lcr := (hr).lt
            have cv0 : wr.cell? ⟨B, 0, none⟩ = some (.bool b) := (hv).cell 0
            have fcv0 := (hv).frozen 0
            have cv1 : wr.cell? ⟨B, 1, none⟩ = some (.string ⟨S.toArray⟩) := (hv).cell 1
            have fcv1 := (hv).frozen 1
            have cv2 : wr.cell? ⟨B, 2, none⟩ = some (.int .i64 k) := (hv).cell 2
            have fcv2 := (hv).frozen 2
            have cv3 : wr.cell? ⟨B, 3, none⟩ = some (.int .i64 y) := (hv).cell 3
            have fcv3 := (hv).frozen 3
            have cv4 : wr.cell? ⟨B, 4, none⟩ = some (.bool z) := (hv).cell 4
            have fcv4 := (hv).frozen 4
            have lcv := (hv).lt
            go_upto_region 16 with fail
            have iw : IntKind.i64.wrap (IntKind.i64.wrap (y - (k : Int)) + IntKind.i64.wrap ((L : Int) - (j : Int))) = p := by
              rw [IntKind.wrap_i64, IntKind.wrap_i64, IntKind.wrap_i64]
              omega
            have hs2 := HSC.out
            rw [← iw] at hs2
            have HS2 := Lib.hid hs2
            clear hs2 iw
            go_region_held3 (fun w' => w'.cell? ⟨B, 0, none⟩ = some (.bool b) ∧ w'.cell? ⟨B, 3, none⟩ = some (.int .i64 y) ∧ w'.cell? ⟨B, 2, none⟩ = some (.int .i64 k) ∧ w'.cell? ⟨B, 4, none⟩ = some (.bool z)) (first | go_keep | (have hv7 : Blk (grow wr.drew m7) B 55 #[.bool b, .string ⟨S.toArray⟩, .int .i64 k, .int .i64 y, .bool z] := Blk.grow (show Blk wr.drew B 55 #[.bool b, .string ⟨S.toArray⟩, .int .i64 k, .int .i64 y, .bool z] from hv) m7; exact ⟨hv7.cell 0, hv7.cell 3, hv7.cell 2, hv7.cell 4⟩) | (have hv7 : Blk (grow wr.drew m7) B 55 #[.bool b, .string ⟨S.toArray⟩, .int .i64 k, .int .i64 y, .bool z] := Blk.grow (show Blk wr.drew B 55 #[.bool b, .string ⟨S.toArray⟩, .int .i64 k, .int .i64 y, .bool z] from hv) m7; have hv8 := (hv7.far (p := ⟨w.heap.size, 0, none⟩) (by simp; omega) (.int .i64 xa)).far (p := ⟨w.heap.size, 1, none⟩) (by simp; omega) (.int .i64 xb); exact ⟨hv8.cell 0, hv8.cell 3, hv8.cell 2, hv8.cell 4⟩)) (first | (go_at_call 40; (with_reducible refine (HS2.out _).mono ?_); rintro e w' ⟨rfl, hbw⟩; obtain ⟨m7, rfl⟩ := grow_mk hbw; clear hbw; have hr7 := Blk.grow (show Blk wr.drew w.heap.size 23 _ from hr) m7; have c70 : (grow wr.drew m7).cell? ⟨w.heap.size, 0, none⟩ = some (.int .i64 0) := hr7.cell 0; have f70 := hr7.frozen 0; have c71 : (grow wr.drew m7).cell? ⟨w.heap.size, 1, none⟩ = some (.int .i64 0) := hr7.cell 1; have f71 := hr7.frozen 1; have l7 := hr7.lt))
            all_goals
              go_wp2_with fail
              exact bodyPost_ret (v := .tuple #[.agg #[.int .i64 xa, .int .i64 xb], .bool z, .int .i64 0]) (by simp [results, Tryd.results19, go_sem, c70, c71, l7, cr0, cr1, lcr]) rfl ⟨(by rw [HF.out]; rfl), (by repeat (first | with_reducible exact hb | (with_reducible refine Below.setCell ?_ ?hq _; case hq => first | (simp; done) | (simp; omega)) | with_reducible refine Below.drew ?_ | with_reducible refine below_alloc_self ?_ _ | with_reducible refine below_grow ?_ _))⟩

end Go.Proofs.YtgjhaanpkfheeaaDoor
