/- Numbers of a stylesheet: the reference's digits and value, walked. -/
import Derived.Test.YtgjhaanpkfheeaaDoorDecV
import Derived.Test.YtgjhaanpkfheeaaDoorTextS
import Derived.Test.YtgjhaanpkfheeaaDoorMulR
namespace Go.Proofs.YtgjhaanpkfheeaaDoor
set_option linter.unusedVariables false
set_option linter.unusedSimpArgs false
open Go.RowKit Go.Lib

set_option maxRecDepth 20000 in
set_option maxHeartbeats 2000000 in
theorem run_any (l : List UInt8) (i0 : Nat) (w : World) (hl : l.length ≤ 9223372036854775807) (h0 : i0 ≤ l.length) :
    Calls Tryd.prog 41 #[.string ⟨l.toArray⟩, .int .i64 i0] w fun e w' => e = .returned (.int .i64 ((i0 + ((l.drop i0).takeWhile isD).length : Nat) : Int)) ∧ Below w.heap.size w w' := by
  obtain ⟨n, hn⟩ : ∃ x, i0 + ((l.drop i0).takeWhile isD).length = x := ⟨_, rfl⟩
  rw [hn]
  go_enter Tryd.func41, Tryd.ntmps41
  go_wp2_with fail
  go_loopg [1] l.length (fun k s wr => ∃ (i : Nat), s = .int .i64 i ∧ Below w.heap.size w wr ∧ i ≤ l.length ∧ Hid (i + ((l.drop i).takeWhile isD).length = n) ∧ l.length - i ≤ k)
  case atStart => exact ⟨i0, rfl, Below.refl _ _, h0, Lib.hid hn, by omega⟩
  case round =>
    clear hn
    obtain ⟨i, rfl, hb, hle, hlaw, hk⟩ := hrel
    by_cases hi : i < l.length
    · have gi : decide ((i : Int) < l.length) = true := by simpa using hi
      have hst := take_step hi
      have hlw := hlaw.out
      rw [hst] at hlw
      have HD := Lib.hid (fun w => digit_any (l[i]'hi) w)
      clear hst hlaw
      generalize hc : l[i] = c at *
      obtain ⟨D, hD⟩ : ∃ x, isD c = x := ⟨_, rfl⟩
      rw [hD] at hlw HD
      have hbd := UInt8.toNat_lt c
      cases D with
      | false =>
        have HL := Lib.hid (show n = i by rw [← hlw]; simp)
        clear hlw hD
        go_wp2_with fail
        ((with_reducible refine (HD.out _).mono ?_); rintro e w' ⟨rfl, rfl⟩)
        go_wp2_with fail
        go_ret
        exact ⟨ret_int (by rw [HL.out]), hb⟩
      | true =>
        have HL := Lib.hid (show (i + 1) + ((l.drop (i + 1)).takeWhile isD).length = n by rw [← hlw]; simp; omega)
        clear hlw hD
        go_wp2_with fail
        ((with_reducible refine (HD.out _).mono ?_); rintro e w' ⟨rfl, rfl⟩)
        go_wp2_with fail
        go_roundg (l.length - (i + 1))
        case measure => omega
        case rel => exact ⟨i + 1, by go_num, hb, hi, HL, by omega⟩
    · obtain rfl : i = l.length := by omega
      have hlw := hlaw.out
      rw [List.drop_length] at hlw
      have HL := Lib.hid (show n = l.length by rw [← hlw]; rfl)
      clear hlw hlaw
      go_wp2_with fail
      go_ret
      exact ⟨ret_int (by rw [HL.out]), hb⟩

theorem ext_mid (l : List UInt8) (i j : Nat) : (⟨l.toArray⟩ : ByteArray).extract i j = ⟨((l.take j).drop i).toArray⟩ := by
  rw [ByteArray.extract_mk]
  simp [List.drop_take]

theorem two_le {d t x : Nat} (h : d * 2 ^ t = 2 ^ x) (hx : x ≤ 62) : 1 ≤ d ∧ d ≤ 4611686018427387904 := by
  have h1 : (2 : Nat) ^ x ≤ 2 ^ 62 := Nat.pow_le_pow_right (by decide) hx
  have h2 : (2 : Nat) ^ 62 = 4611686018427387904 := by decide
  have h3 : d ≤ d * 2 ^ t := Nat.le_mul_of_pos_right _ (Nat.two_pow_pos t)
  have h4 : 0 < (2 : Nat) ^ x := Nat.two_pow_pos x
  refine ⟨?_, by omega⟩
  rcases Nat.eq_zero_or_pos d with h5 | h5
  · rw [h5, Nat.zero_mul] at h; omega
  · exact h5
theorem two_step {d t x : Nat} (h : d * 2 ^ (t + 1) = 2 ^ x) : d * 2 * 2 ^ t = 2 ^ x := by
  rw [← h, Nat.pow_succ, Nat.mul_comm (2 ^ t) 2, Nat.mul_assoc]
theorem strip_off {b k n : Nat} (h : n % b = 0) : stripF b (k + 1) n = stripF b k (n / b) := by rw [stripF, if_pos h]
theorem strip_stop {b k n : Nat} (h : n % b ≠ 0) : stripF b (k + 1) n = (n, k + 1) := by rw [stripF, if_neg h]
theorem up_stop {b k d : Nat} (h : 9223372036854775807 / b < d) : upF b (k + 1) d = none := by rw [upF, if_pos h]
theorem up_step {b k d : Nat} (h : ¬ 9223372036854775807 / b < d) : upF b (k + 1) d = upF b k (d * b) := by rw [upF, if_neg h]

set_option maxRecDepth 20000 in
set_option maxHeartbeats 8000000 in
theorem value_any (neg : Bool) (ds : List UInt8) (p : Int) (w : World) (hall : ds.all isD = true) (hl : ds.length ≤ 1048576) (hp1 : -2199023255552 ≤ p) (hp2 : p ≤ 2199023255552) :
    Calls Tryd.prog 42 #[.bool neg, .string ⟨ds.toArray⟩, .int .i64 p] w fun e w' => e = .returned (rv (valueF neg ds p)) ∧ Below w.heap.size w w' := by
  obtain ⟨S, hS⟩ : ∃ x, valueF neg ds p = x := ⟨_, rfl⟩
  rw [hS]
  obtain ⟨d, hd⟩ : ∃ x, ds.dropWhile (· == 48) = x := ⟨_, rfl⟩
  have HS := Lib.hid hS
  have HDW := Lib.hid hd
  have HALL := Lib.hid hall
  go_enter Tryd.func42, Tryd.ntmps42
  go_upto_region 1 with fail
  have hr : Blk (w.alloc (.cells #[.int .i64 0, .int .i64 0] 23)) w.heap.size 23 #[.int .i64 0, .int .i64 0] := Blk.new _ _ _
  have hb : Below w.heap.size w (w.alloc (.cells #[.int .i64 0, .int .i64 0] 23)) := below_box _ _
  generalize w.alloc _ = wa at *
  go_wp2_with fail
  go_loopg [7] ds.length (fun k s7 wr => ∃ (i : Nat), s7 = .int .i64 i ∧ wr = wa ∧ i ≤ ds.length ∧ Hid ((ds.drop i).dropWhile (· == 48) = d) ∧ ds.length - i ≤ k)
  case atStart => exact ⟨0, rfl, rfl, Nat.zero_le _, HDW, by omega⟩
  case round =>
    clear hall hS hd
    obtain ⟨i, rfl, rfl, hle, hlaw, hk⟩ := hrel
    by_cases hi : i < ds.length
    · have gi : decide ((i : Int) < ds.length) = true := by simpa using hi
      have hst := fun h => lead_step (l := ds) hi h
      have hsp := fun h => lead_stop (l := ds) hi h
      generalize hc : ds[i] = c at *
      by_cases h48 : c = 48
      · have HL := Lib.hid ((hst h48).trans hlaw.out)
        subst h48
        clear hst hsp
        go_wp2_with fail
        go_roundg (ds.length - (i + 1))
        case measure => omega
        case rel => exact ⟨i + 1, by go_num, rfl, hi, HL, by omega⟩
      · have gc : ((c.toNat : Int) == 48) = false := by
          rw [beq_eq_false_iff_ne]; intro e; exact h48 (by rw [← UInt8.toNat_inj]; show c.toNat = 48; omega)
        have HD := Lib.hid ((hsp h48).symm.trans hlaw.out)
        clear hst hsp
        have hdne : d ≠ [] := by
          rw [← HD.out]
          intro e
          have := congrArg List.length e
          rw [List.length_drop, List.length_nil] at this
          omega
        have HNE := Lib.hid hdne
        have HCI := Lib.hid (show ∀ h : i < ds.length, ds[i]'h ≠ 48 from fun h => by rw [hc]; exact h48)
        clear hdne hlaw hk
        have gne : ((i : Int) == (ds.length : Int)) = false := by rw [beq_eq_false_iff_ne]; omega
        go_wp2_with fail
        clear hc h48 gc gi
        obtain ⟨core, hcore⟩ : ∃ x, trimR d = x := ⟨_, rfl⟩
        have HCO := Lib.hid hcore
        clear hcore
        go_loopg [2, 8] ds.length (fun k s2 s8 wx => ∃ (b : Nat) (e : Int), s2 = .int .i64 e ∧ s8 = .int .i64 ((b : Int) + 1) ∧ wx = wr ∧ i ≤ b ∧ b < ds.length ∧ e = p + ((ds.length - 1 - b : Nat) : Int) ∧ Hid (trimR ((ds.take (b + 1)).drop i) = core) ∧ b ≤ k)
        case atStart => exact ⟨ds.length - 1, p, rfl, congrArg (Value.int .i64) (by omega), rfl, by omega, by omega, by rw [Nat.sub_self]; simp, Lib.hid (by rw [show ds.length - 1 + 1 = ds.length by omega, List.take_length, HD.out]; exact HCO.out), by omega⟩
        case round =>
          obtain ⟨b, e, rfl, rfl, rfl, hib, hbl, he, hlaw, hk⟩ := hrel
          have hst := fun h => trail_step (l := ds) (i := i) hbl hib h
          have hsp := fun h => trail_stop (l := ds) (i := i) hbl hib h
          have hbi : b = i → ds[b] ≠ 48 := fun h => by subst h; exact HCI.out hbl
          generalize hc : ds[b] = c at *
          by_cases h48 : c = 48
          · have hlt : i < b := Nat.lt_of_le_of_ne hib (fun h => hbi h.symm h48)
            obtain ⟨b2, rfl⟩ : ∃ x, b = x + 1 := ⟨b - 1, by omega⟩
            have HL := Lib.hid ((hst h48).trans hlaw.out)
            subst h48
            clear hst hsp hbi hlaw
            go_wp2_with fail
            go_roundg b2
            case measure => omega
            case rel => exact ⟨b2, e + 1, by go_num, by go_num, rfl, by omega, by omega, by omega, HL, by omega⟩
          · have gc : ((c.toNat : Int) == 48) = false := by
              rw [beq_eq_false_iff_ne]; intro e; exact h48 (by rw [← UInt8.toNat_inj]; show c.toNat = 48; omega)
            have HC := Lib.hid ((hsp h48).symm.trans hlaw.out)
            clear hst hsp hbi hlaw hk
            obtain ⟨n, hn⟩ : ∃ n, b + 1 = i + n := ⟨b + 1 - i, by omega⟩
            have hcl : core.length = n := by
              rw [← HC.out, List.length_drop, List.length_take]
              omega
            have gs : ((b : Int) + 1) - (i : Int) = (n : Int) := by omega
            by_cases h18 : 18 < n
            · have HF := Lib.hid (show S = (0, 0) by rw [← HS.out]; exact value_long HDW.out HNE.out (by rw [HCO.out, hcl]; exact h18))
              go_wp2_with fail
              ((with_reducible refine (over_any _).mono ?_); rintro e w' ⟨rfl, hbw⟩)
              obtain ⟨m1, rfl⟩ := grow_mk hbw
              clear hbw
              replace hb := below_grow hb m1
              replace hr := hr.grow m1
              generalize grow wr m1 = wr at *
              have cr0 : wr.cell? ⟨w.heap.size, 0, none⟩ = some (.int .i64 0) := (hr).cell 0
              have fcr0 := (hr).frozen 0
              have cr1 : wr.cell? ⟨w.heap.size, 1, none⟩ = some (.int .i64 0) := (hr).cell 1
              have fcr1 := (hr).frozen 1
              have lcr := (hr).lt
              go_wp2_with fail
              exact bodyPost_ret (v := .agg #[.int .i64 0, .int .i64 0]) (by simp [results, Tryd.results42, go_sem, cr0, cr1, lcr]) rfl ⟨(by rw [HF.out]), (by repeat (first | with_reducible exact hb | (with_reducible refine Below.setCell ?_ ?hq _; case hq => first | (simp; done) | (simp; omega))))⟩
            · have hS2 : scaleF neg (valD core) e = S := by
                rw [← HS.out, value_short HDW.out HNE.out (by rw [HCO.out, hcl]; exact h18), HCO.out, he, hcl]
                congr 2
                rw [← HD.out, List.length_drop]
                omega
              have hval := core_val HALL.out (by rw [HDW.out]; exact HNE.out) (by rw [HDW.out, HCO.out, hcl]; omega)
              rw [HDW.out, HCO.out] at hval
              have hca : core.all isD = true := by rw [← HCO.out, ← HDW.out]; exact trim_all (drop_all HALL.out)
              obtain ⟨cap, w1, hrun, hb1, hlt1, hcells⟩ := bytes_conv core wr
              rw [hcl] at hrun
              have hex : (⟨ds.toArray⟩ : ByteArray).extract i (b + 1) = ⟨core.toArray⟩ := by rw [ext_mid, HC.out]
              have HCA := Lib.hid hca
              have HCE := Lib.hid hcells
              have HS2 := Lib.hid hS2
              have HV := Lib.hid hval
              have HCL := Lib.hid hcl
              have hn18 : n ≤ 18 := by omega
              have hp1 : -2199023255552 ≤ e := by omega
              have hp2 : e ≤ 2199024304128 := by omega
              clear hca hcells hS2 hval hcl HS HC HDW HD hn
              go_wp2_with fail
              obtain ⟨ex1, e2⟩ := grow_mk hb1
              subst e2
              replace hb := below_grow hb ex1
              replace hr := hr.grow ex1
              clear hb1
              generalize grow wr ex1 = w1 at *
              generalize wr.heap.size = B at *
              go_loopg [52, 9] n (fun k s52 s9 wx => ∃ (j : Nat), s52 = .int .i64 j ∧ s9 = .int .u64 (valD (core.take j)) ∧ wx = w1 ∧ j ≤ n ∧ n - j ≤ k)
              case atStart => exact ⟨0, rfl, rfl, rfl, Nat.zero_le _, by omega⟩
              case round =>
                obtain ⟨j, rfl, rfl, rfl, hjn, hk⟩ := hrel
                by_cases hj : j < n
                · have gj : decide ((j : Int) < n) = true := by simpa using hj
                  have hjl : j < core.length := by rw [HCL.out]; exact hj
                  have hr0 : core[j]? = some (core[j]'hjl) := List.getElem?_eq_getElem hjl
                  have hst : valD (core.take (j + 1)) = valD (core.take j) * 10 + ((core[j]'hjl).toNat - 48) := by
                    rw [List.take_add_one, hr0]
                    exact valD_snoc _ _
                  have hcc := HCE.out j _ hr0
                  have hdg : isD (core[j]'hjl) = true := List.all_eq_true.1 HCA.out _ (List.getElem_mem _)
                  have hv : valD (core.take j) < 10 ^ 18 := by
                    have h1 := val_lt (core.take j) (by rw [List.all_eq_true]; exact fun x hx => List.all_eq_true.1 HCA.out x (List.mem_of_mem_take hx))
                    rw [List.length_take, Nat.min_eq_left (by omega)] at h1
                    exact Nat.lt_of_lt_of_le h1 (Nat.pow_le_pow_right (by decide) (by omega))
                  have hv2 : valD (core.take j) < 1000000000000000000 := hv
                  generalize core[j]'hjl = c9 at *
                  simp only [isD, Bool.and_eq_true, decide_eq_true_eq] at hdg
                  obtain ⟨c1, c2⟩ := hdg
                  have HST := Lib.hid hst
                  clear hst hr0 hv hrun hex
                  generalize valD (core.take j) = v at *
                  generalize c9.toNat = d9 at *
                  go_wp2_with fail
                  go_roundg (n - (j + 1))
                  case measure => omega
                  case rel => exact ⟨j + 1, by go_num, congrArg (Value.int .u64) (by rw [HST.out]; omega), rfl, hj, by omega⟩
                · obtain rfl : j = n := by omega
                  rw [show core.take j = core from List.take_of_length_le (by rw [HCL.out]; exact Nat.le_refl _)]
                  obtain ⟨v1, v2⟩ := HV.out
                  generalize valD core = v at *
                  clear HCE hrun hex HV hk hj hjn
                  go_wp2_with fail
                  go_loopg [2, 9] e.toNat (fun k s2 s9 wx => ∃ (n9 : Nat) (e9 : Int), s2 = .int .i64 e9 ∧ s9 = .int .u64 n9 ∧ wx = wr ∧ Hid (scaleF neg n9 e9 = S) ∧ 1 ≤ n9 ∧ n9 ≤ 9223372036854775807 ∧ -2199023255552 ≤ e9 ∧ e9 ≤ 2199024304128 ∧ e9.toNat ≤ k)
                  case atStart => exact ⟨v, e, rfl, rfl, rfl, HS2, v1, by omega, hp1, hp2, by omega⟩
                  case round =>
                    obtain ⟨n9, e9, rfl, rfl, rfl, hx, x1, x2, x3, x4, hk⟩ := hrel
                    by_cases h0 : 0 < e9
                    · have gi : decide ((0 : Int) < e9) = true := by simpa using h0
                      by_cases hn : 922337203685477580 < n9
                      · have HF := Lib.hid (show S = (0, 0) by rw [← hx.out]; exact scale_stop h0 hn)
                        have gn : decide ((922337203685477580 : Int) < (n9 : Int)) = true := by simp; omega
                        go_wp2_with fail
                        ((with_reducible refine (over_any _).mono ?_); rintro e w' ⟨rfl, hbw⟩)
                        obtain ⟨m1, rfl⟩ := grow_mk hbw
                        clear hbw
                        replace hb := below_grow hb m1
                        replace hr := hr.grow m1
                        generalize grow wr m1 = wr at *
                        have cr0 : wr.cell? ⟨w.heap.size, 0, none⟩ = some (.int .i64 0) := (hr).cell 0
                        have fcr0 := (hr).frozen 0
                        have cr1 : wr.cell? ⟨w.heap.size, 1, none⟩ = some (.int .i64 0) := (hr).cell 1
                        have fcr1 := (hr).frozen 1
                        have lcr := (hr).lt
                        go_wp2_with fail
                        exact bodyPost_ret (v := .agg #[.int .i64 0, .int .i64 0]) (by simp [results, Tryd.results42, go_sem, cr0, cr1, lcr]) rfl ⟨(by rw [HF.out]), (by repeat (first | with_reducible exact hb | (with_reducible refine Below.setCell ?_ ?hq _; case hq => first | (simp; done) | (simp; omega))))⟩
                      · have gn : decide ((922337203685477580 : Int) < (n9 : Int)) = false := by simp; omega
                        go_wp2_with fail
                        go_roundg (e9 - 1).toNat
                        case measure => omega
                        case rel => exact ⟨n9 * 10, e9 - 1, rfl, by go_num, rfl, Lib.hid (by rw [← scale_step h0 (by omega)]; exact hx.out), by omega, by omega, by omega, by omega, by omega⟩
                    · obtain ⟨T, rfl⟩ : ∃ T : Nat, e9 = -(T : Int) := ⟨(-e9).toNat, by omega⟩
                      have gi : decide ((0 : Int) < -(T : Int)) = false := by rw [decide_eq_false_iff_not]; omega
                      obtain ⟨x, hX⟩ : ∃ x, stripF 2 T n9 = x := ⟨_, rfl⟩
                      obtain ⟨y, hY⟩ : ∃ y, stripF 5 T x.1 = y := ⟨_, rfl⟩
                      have hsr := scale_ref (neg := neg) (n := n9) (e := -(T : Int)) (x := x) (y := y) (by omega) (by rw [← hX, Int.neg_neg]; rfl) (by rw [← hY, Int.neg_neg]; rfl)
                      have hx1 := strip_pow 2 (by decide) T n9 x1
                      rw [hX] at hx1
                      have hy1 := strip_pow 5 (by decide) T x.1 hx1.2.1
                      rw [hY] at hy1
                      have hx2 := strip_le 2 T n9
                      rw [hX] at hx2
                      have hy2 := strip_le 5 T x.1
                      rw [hY] at hy2
                      obtain ⟨xa, xb⟩ := x
                      obtain ⟨ya, yb⟩ := y
                      simp only at hsr hx1 hx2 hy1 hy2 hX hY
                      rw [hx.out] at hsr
                      have HSR := Lib.hid hsr
                      have HX := Lib.hid hX
                      have HY := Lib.hid hY
                      obtain ⟨_, xa1, xa2⟩ := hx1
                      obtain ⟨_, ya1, ya2⟩ := hy1
                      clear hsr hX hY hx
                      go_upto_block 8 with fail
                      go_cut [9, 13] (fun s9 s13 wx => s9 = .int .u64 xa ∧ s13 = .int .i64 xb ∧ wx = wr)
                      case first =>
                        go_wp2_with fail
                        go_loopg [9, 13] T (fun k s9 st wx => ∃ (m t : Nat), s9 = .int .u64 m ∧ st = .int .i64 t ∧ wx = wr ∧ Hid (stripF 2 t m = (xa, xb)) ∧ m ≤ 9223372036854775807 ∧ t ≤ T ∧ t ≤ k)
                        case atStart => exact ⟨n9, T, rfl, rfl, rfl, HX, by omega, by omega, by omega⟩
                        case round =>
                          obtain ⟨m, t, rfl, rfl, rfl, hx, m2, t2, hk⟩ := hrel
                          cases t with
                          | zero =>
                            have hx0 := hx.out
                            obtain ⟨rfl, rfl⟩ : m = xa ∧ 0 = xb := Prod.mk.inj hx0
                            go_wp2_with fail
                            go_meet
                            case rel => exact ⟨rfl, rfl, rfl⟩
                          | succ t =>
                            have gt : decide ((0 : Int) < (t : Int) + 1) = true := by rw [decide_eq_true_eq]; omega
                            obtain ⟨q, hq⟩ : ∃ q, m % 2 = q := ⟨_, rfl⟩
                            have iq : (m : Int) % 2 = (q : Int) := by omega
                            have q1 : q ≤ 9223372036854775807 := by omega
                            by_cases h0 : q = 0
                            · have hx2 := Lib.hid ((strip_off (k := t) (hq.trans h0)).symm.trans hx.out)
                              have gq : ((q : Int) == 0) = true := by simpa using h0
                              obtain ⟨u, hu⟩ : ∃ u, m / 2 = u := ⟨_, rfl⟩
                              have iu : (m : Int) / 2 = (u : Int) := by omega
                              have u1 : u ≤ 9223372036854775807 := by omega
                              rw [hu] at hx2
                              clear hq h0 hx hu
                              go_wp2_with fail
                              go_roundg t
                              case measure => omega
                              case rel => exact ⟨u, t, rfl, by go_num, rfl, hx2, u1, by omega, by omega⟩
                            · have gq : ((q : Int) == 0) = false := by simpa using h0
                              have hx0 := (strip_stop (k := t) (fun h => h0 (hq.symm.trans h))).symm.trans hx.out
                              obtain ⟨rfl, rfl⟩ := Prod.mk.inj hx0
                              clear hq h0 hx
                              go_wp2_with fail
                              go_meet
                              case rel => exact ⟨rfl, rfl, rfl⟩
                      case rest =>
                        obtain ⟨rfl, rfl, e2⟩ := hcut
                        subst e2
                        go_upto_block 10 with fail
                        go_cut [9, 14] (fun s9 s14 wx => s9 = .int .u64 ya ∧ s14 = .int .i64 yb ∧ wx = wc)
                        case first =>
                          go_wp2_with fail
                          go_loopg [9, 14] T (fun k s9 st wx => ∃ (m t : Nat), s9 = .int .u64 m ∧ st = .int .i64 t ∧ wx = wc ∧ Hid (stripF 5 t m = (ya, yb)) ∧ m ≤ 9223372036854775807 ∧ t ≤ T ∧ t ≤ k)
                          case atStart => exact ⟨xa, T, rfl, rfl, rfl, HY, by omega, by omega, by omega⟩
                          case round =>
                            obtain ⟨m, t, rfl, rfl, rfl, hx, m2, t2, hk⟩ := hrel
                            cases t with
                            | zero =>
                              have hx0 := hx.out
                              obtain ⟨rfl, rfl⟩ : m = ya ∧ 0 = yb := Prod.mk.inj hx0
                              go_wp2_with fail
                              go_meet
                              case rel => exact ⟨rfl, rfl, rfl⟩
                            | succ t =>
                              have gt : decide ((0 : Int) < (t : Int) + 1) = true := by rw [decide_eq_true_eq]; omega
                              obtain ⟨q, hq⟩ : ∃ q, m % 5 = q := ⟨_, rfl⟩
                              have iq : (m : Int) % 5 = (q : Int) := by omega
                              have q1 : q ≤ 9223372036854775807 := by omega
                              by_cases h0 : q = 0
                              · have hx2 := Lib.hid ((strip_off (k := t) (hq.trans h0)).symm.trans hx.out)
                                have gq : ((q : Int) == 0) = true := by simpa using h0
                                obtain ⟨u, hu⟩ : ∃ u, m / 5 = u := ⟨_, rfl⟩
                                have iu : (m : Int) / 5 = (u : Int) := by omega
                                have u1 : u ≤ 9223372036854775807 := by omega
                                rw [hu] at hx2
                                clear hq h0 hx hu
                                go_wp2_with fail
                                go_roundg t
                                case measure => omega
                                case rel => exact ⟨u, t, rfl, by go_num, rfl, hx2, u1, by omega, by omega⟩
                              · have gq : ((q : Int) == 0) = false := by simpa using h0
                                have hx0 := (strip_stop (k := t) (fun h => h0 (hq.symm.trans h))).symm.trans hx.out
                                obtain ⟨rfl, rfl⟩ := Prod.mk.inj hx0
                                clear hq h0 hx
                                go_wp2_with fail
                                go_meet
                                case rel => exact ⟨rfl, rfl, rfl⟩
                        case rest =>
                          obtain ⟨rfl, rfl, e2⟩ := hcut
                          subst e2
                          clear HX HY
                          have hd0 : (1 : Nat) * 2 ^ xb = 2 ^ xb := Nat.one_mul _
                          by_cases h62 : 62 < xb
                          · have HF := Lib.hid (show S = (0, 0) by rw [HSR.out, if_pos (Or.inl h62)])
                            have g62 : decide ((62 : Int) < xb) = true := by rw [decide_eq_true_eq]; omega
                            go_wp2_with fail
                            ((with_reducible refine (over_any _).mono ?_); rintro e w' ⟨rfl, hbw⟩)
                            obtain ⟨m1, rfl⟩ := grow_mk hbw
                            clear hbw
                            replace hb := below_grow hb m1
                            replace hr := hr.grow m1
                            generalize grow wc m1 = wc at *
                            have cr0 : wc.cell? ⟨w.heap.size, 0, none⟩ = some (.int .i64 0) := (hr).cell 0
                            have fcr0 := (hr).frozen 0
                            have cr1 : wc.cell? ⟨w.heap.size, 1, none⟩ = some (.int .i64 0) := (hr).cell 1
                            have fcr1 := (hr).frozen 1
                            have lcr := (hr).lt
                            go_wp2_with fail
                            exact bodyPost_ret (v := .agg #[.int .i64 0, .int .i64 0]) (by simp [results, Tryd.results42, go_sem, cr0, cr1, lcr]) rfl ⟨(by rw [HF.out]), (by repeat (first | with_reducible exact hb | (with_reducible refine Below.setCell ?_ ?hq _; case hq => first | (simp; done) | (simp; omega))))⟩
                          · by_cases h27 : 27 < yb
                            · have HF := Lib.hid (show S = (0, 0) by rw [HSR.out, if_pos (Or.inr h27)])
                              have g62 : decide ((62 : Int) < xb) = false := by rw [decide_eq_false_iff_not]; omega
                              have g27 : decide ((27 : Int) < yb) = true := by rw [decide_eq_true_eq]; omega
                              go_wp2_with fail
                              ((with_reducible refine (over_any _).mono ?_); rintro e w' ⟨rfl, hbw⟩)
                              obtain ⟨m1, rfl⟩ := grow_mk hbw
                              clear hbw
                              replace hb := below_grow hb m1
                              replace hr := hr.grow m1
                              generalize grow wc m1 = wc at *
                              have cr0 : wc.cell? ⟨w.heap.size, 0, none⟩ = some (.int .i64 0) := (hr).cell 0
                              have fcr0 := (hr).frozen 0
                              have cr1 : wc.cell? ⟨w.heap.size, 1, none⟩ = some (.int .i64 0) := (hr).cell 1
                              have fcr1 := (hr).frozen 1
                              have lcr := (hr).lt
                              go_wp2_with fail
                              exact bodyPost_ret (v := .agg #[.int .i64 0, .int .i64 0]) (by simp [results, Tryd.results42, go_sem, cr0, cr1, lcr]) rfl ⟨(by rw [HF.out]), (by repeat (first | with_reducible exact hb | (with_reducible refine Below.setCell ?_ ?hq _; case hq => first | (simp; done) | (simp; omega))))⟩
                            · have g62 : decide ((62 : Int) < xb) = false := by rw [decide_eq_false_iff_not]; omega
                              have g27 : decide ((27 : Int) < yb) = false := by rw [decide_eq_false_iff_not]; omega
                              obtain ⟨U, hU⟩ : ∃ x, upF 5 yb (2 ^ xb) = x := ⟨_, rfl⟩
                              have HSU := Lib.hid (show S = downT neg (U.map fun d => (ya, d)) by
                                rw [HSR.out, if_neg (by omega), hU]
                                cases U <;> rfl)
                              have HU := Lib.hid hU
                              clear hU HSR
                              go_wp2_with fail
                              go_loopg [12, 13] xb (fun k s12 s13 wx => ∃ (d t : Nat), s12 = .int .u64 d ∧ s13 = .int .i64 t ∧ wx = wc ∧ Hid (d * 2 ^ t = 2 ^ xb) ∧ t ≤ xb ∧ t ≤ k)
                              case atStart => exact ⟨1, xb, rfl, rfl, rfl, Lib.hid hd0, by omega, by omega⟩
                              case round =>
                                clear hd0
                                obtain ⟨d, t, rfl, rfl, rfl, hd, t1, hk⟩ := hrel
                                obtain ⟨d1, d2⟩ := two_le hd.out (by omega)
                                cases t with
                                | succ t =>
                                  have gt : decide ((0 : Int) < (t : Int) + 1) = true := by rw [decide_eq_true_eq]; omega
                                  have hd2 := Lib.hid (two_step hd.out)
                                  clear hd
                                  go_wp2_with fail
                                  go_roundg t
                                  case measure => omega
                                  case rel => exact ⟨d * 2, t, by go_num, by go_num, rfl, hd2, by omega, by omega⟩
                                | zero =>
                                  have hd2 : d = 2 ^ xb := by rw [← hd.out]; simp
                                  rw [← hd2] at HU
                                  clear hd hd2
                                  go_wp2_with fail
                                  go_loopg [12, 14] yb (fun k s12 s14 wx => ∃ (d t : Nat), s12 = .int .u64 d ∧ s14 = .int .i64 t ∧ wx = wr ∧ Hid (upF 5 t d = U) ∧ 1 ≤ d ∧ d ≤ 9223372036854775807 ∧ t ≤ yb ∧ t ≤ k)
                                  case atStart => exact ⟨d, yb, rfl, rfl, rfl, HU, d1, by omega, by omega, by omega⟩
                                  case round =>
                                    clear HU d1 d2
                                    obtain ⟨d, t, rfl, rfl, rfl, hd, d1, d2, t1, hk⟩ := hrel
                                    cases t with
                                    | succ t =>
                                      have gt : decide ((0 : Int) < (t : Int) + 1) = true := by rw [decide_eq_true_eq]; omega
                                      by_cases hbig : 1844674407370955161 < d
                                      · have gb : decide ((1844674407370955161 : Int) < (d : Int)) = true := by rw [decide_eq_true_eq]; omega
                                        have HF := Lib.hid (show S = (0, 0) by
                                          rw [HSU.out, ← hd.out, up_stop (by omega)]
                                          rfl)
                                        go_wp2_with fail
                                        ((with_reducible refine (over_any _).mono ?_); rintro e w' ⟨rfl, hbw⟩)
                                        obtain ⟨m1, rfl⟩ := grow_mk hbw
                                        clear hbw
                                        replace hb := below_grow hb m1
                                        replace hr := hr.grow m1
                                        generalize grow wr m1 = wr at *
                                        have cr0 : wr.cell? ⟨w.heap.size, 0, none⟩ = some (.int .i64 0) := (hr).cell 0
                                        have fcr0 := (hr).frozen 0
                                        have cr1 : wr.cell? ⟨w.heap.size, 1, none⟩ = some (.int .i64 0) := (hr).cell 1
                                        have fcr1 := (hr).frozen 1
                                        have lcr := (hr).lt
                                        go_wp2_with fail
                                        exact bodyPost_ret (v := .agg #[.int .i64 0, .int .i64 0]) (by simp [results, Tryd.results42, go_sem, cr0, cr1, lcr]) rfl ⟨(by rw [HF.out]), (by repeat (first | with_reducible exact hb | (with_reducible refine Below.setCell ?_ ?hq _; case hq => first | (simp; done) | (simp; omega))))⟩
                                      · have gb : decide ((1844674407370955161 : Int) < (d : Int)) = false := by rw [decide_eq_false_iff_not]; omega
                                        have hd2 := Lib.hid ((up_step (b := 5) (k := t) (d := d) (by omega)).symm.trans hd.out)
                                        clear hd
                                        go_wp2_with fail
                                        go_roundg t
                                        case measure => omega
                                        case rel => exact ⟨d * 5, t, by go_num, by go_num, rfl, hd2, by omega, by omega, by omega, by omega⟩
                                    | zero =>
                                      have HF := Lib.hid (show S = (if neg then -(ya : Int) else ya, (d : Int)) by rw [HSU.out, ← hd.out]; rfl)
                                      clear hd
                                      have cr0 : wr.cell? ⟨w.heap.size, 0, none⟩ = some (.int .i64 0) := (hr).cell 0
                                      have fcr0 := (hr).frozen 0
                                      have cr1 : wr.cell? ⟨w.heap.size, 1, none⟩ = some (.int .i64 0) := (hr).cell 1
                                      have fcr1 := (hr).frozen 1
                                      have lcr := (hr).lt
                                      cases neg with
                                      | true =>
                                        go_wp2_with fail
                                        exact bodyPost_ret (v := .agg #[.int .i64 (-(ya : Int)), .int .i64 d]) (by simp [results, Tryd.results42, go_sem, cr0, cr1, lcr]) rfl ⟨(by rw [HF.out]; rfl), (by repeat (first | with_reducible exact hb | (with_reducible refine Below.setCell ?_ ?hq _; case hq => first | (simp; done) | (simp; omega))))⟩
                                      | false =>
                                        go_wp2_with fail
                                        exact bodyPost_ret (v := .agg #[.int .i64 ya, .int .i64 d]) (by simp [results, Tryd.results42, go_sem, cr0, cr1, lcr]) rfl ⟨(by rw [HF.out]; rfl), (by repeat (first | with_reducible exact hb | (with_reducible refine Below.setCell ?_ ?hq _; case hq => first | (simp; done) | (simp; omega))))⟩
    · obtain rfl : i = ds.length := by omega
      have hd0 : d = [] := by rw [← hlaw.out, List.drop_length]; rfl
      have HF := Lib.hid (show S = (0, 1) by rw [← HS.out]; exact value_nought (HDW.out.trans hd0))
      go_wp2_with fail
      ((with_reducible refine (int_any 0 _).mono ?_); rintro e w' ⟨rfl, hbw⟩)
      obtain ⟨m1, rfl⟩ := grow_mk hbw
      clear hbw
      replace hb := below_grow hb m1
      replace hr := hr.grow m1
      generalize grow wr m1 = wr at *
      have cr0 : wr.cell? ⟨w.heap.size, 0, none⟩ = some (.int .i64 0) := (hr).cell 0
      have fcr0 := (hr).frozen 0
      have cr1 : wr.cell? ⟨w.heap.size, 1, none⟩ = some (.int .i64 0) := (hr).cell 1
      have fcr1 := (hr).frozen 1
      have lcr := (hr).lt
      go_wp2_with fail
      exact bodyPost_ret (v := .agg #[.int .i64 0, .int .i64 1]) (by simp [results, Tryd.results42, go_sem, cr0, cr1, lcr]) rfl ⟨(by rw [HF.out]), (by repeat (first | with_reducible exact hb | (with_reducible refine Below.setCell ?_ ?hq _; case hq => first | (simp; done) | (simp; omega))))⟩

end Go.Proofs.YtgjhaanpkfheeaaDoor
