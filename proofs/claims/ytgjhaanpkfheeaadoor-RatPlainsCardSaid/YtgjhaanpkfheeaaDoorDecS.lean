/- Numbers of a stylesheet: a number times a power of ten, in the program. -/
import Derived.Test.YtgjhaanpkfheeaaDoorDecV
import Derived.Test.YtgjhaanpkfheeaaDoorRatB
namespace Go.Proofs.YtgjhaanpkfheeaaDoor
set_option linter.unusedVariables false
set_option linter.unusedSimpArgs false
open Go.RowKit Go.Lib

/-- what a number is divided by, in turn -/
def byF (j : Nat) : Nat := if j = 0 then 2 else 5
/-- what is still to be done from the j-th on -/
def restF (K : Nat) : Nat → Nat → Nat → Option (Nat × Nat)
  | 0, n, d => (downF 2 K n d).bind fun x => downF 5 K x.1 x.2
  | 1, n, d => downF 5 K n d
  | _ + 2, n, d => some (n, d)
theorem rest_step (K j n d : Nat) (h : j < 2) : restF K j n d = (downF (byF j) K n d).bind fun x => restF K (j + 1) x.1 x.2 := by
  have : j = 0 ∨ j = 1 := by omega
  rcases this with rfl | rfl
  · rfl
  · show downF 5 K n d = (downF 5 K n d).bind fun x => some x
    cases downF 5 K n d <;> rfl
theorem down_end (b n d : Nat) : downF b 0 n d = some (n, d) := rfl
theorem down_off {b k n d : Nat} (h : n % b = 0) : downF b (k + 1) n d = downF b k (n / b) d := by rw [downF, if_pos h]
theorem down_far {b k n d : Nat} (h : n % b ≠ 0) (h2 : 9223372036854775807 / b < d) : downF b (k + 1) n d = none := by rw [downF, if_neg h, if_pos h2]
theorem down_up {b k n d : Nat} (h : n % b ≠ 0) (h2 : ¬ 9223372036854775807 / b < d) : downF b (k + 1) n d = downF b k n (d * b) := by rw [downF, if_neg h, if_neg h2]
theorem madeF_fits (neg : Bool) (n d : Nat) (h1 : n ≤ 9223372036854775807) (h2 : 1 ≤ d) (h3 : d ≤ 9223372036854775807) : madeF neg n d = (if neg then -(n : Int) else n, (d : Int)) := by
  unfold madeF maxI
  rw [if_neg (by omega)]

set_option maxRecDepth 20000 in
set_option maxHeartbeats 8000000 in
theorem scaled_any (neg : Bool) (num : Nat) (p : Int) (w : World) (h1 : 1 ≤ num) (h2 : num < 1000000000000000000) (hp1 : -9223372036854775808 ≤ p) (hp2 : p ≤ 9223372036854775807) :
    Calls Tryd.prog 40 #[.bool neg, .int .u64 num, .int .i64 p] w fun e w' => e = .returned (rv (scaleF neg num p)) ∧ Below w.heap.size w w' := by
  obtain ⟨S, hS⟩ : ∃ x, scaleF neg num p = x := ⟨_, rfl⟩
  rw [hS]
  by_cases hbig : 18 < p
  · have HF := Lib.hid (show S = (0, 0) by rw [← hS]; exact scale_big h1 hbig)
    have g1 : decide ((18 : Int) < p) = true := by simpa using hbig
    clear hS
    go_enter Tryd.func40, Tryd.ntmps40
    go_wp2_with fail
    exact bodyPost_ret (v := .agg #[.int .i64 0, .int .i64 0]) (by simp [results, Tryd.results40, go_sem]) rfl ⟨(by rw [HF.out]), ((Below.refl _ _).alloc (Nat.le_refl _) _)⟩
  by_cases hfar : p < -100
  · have HF := Lib.hid (show S = (0, 0) by rw [← hS]; exact scale_far h1 h2 hfar)
    have g1 : decide ((18 : Int) < p) = false := by simpa using hbig
    have g2 : decide (p < (-100 : Int)) = true := by simpa using hfar
    clear hS
    go_enter Tryd.func40, Tryd.ntmps40
    go_wp2_with fail
    exact bodyPost_ret (v := .agg #[.int .i64 0, .int .i64 0]) (by simp [results, Tryd.results40, go_sem]) rfl ⟨(by rw [HF.out]), ((Below.refl _ _).alloc (Nat.le_refl _) _)⟩
  have g1 : decide ((18 : Int) < p) = false := by simpa using hbig
  have g2 : decide (p < (-100 : Int)) = false := by simpa using hfar
  have HS := Lib.hid hS
  clear hS
  go_enter Tryd.func40, Tryd.ntmps40
  go_upto_region 1 with fail
  have hr : Blk (w.alloc (.cells #[.int .i64 0, .int .i64 0] 23)) w.heap.size 23 #[.int .i64 0, .int .i64 0] := Blk.new _ _ _
  have hb : Below w.heap.size w (w.alloc (.cells #[.int .i64 0, .int .i64 0] 23)) := below_box _ _
  generalize w.alloc _ = wa at *
  go_wp2_with fail
  go_loopg [1, 2] (p.toNat) (fun k s1 s2 wr => ∃ (n : Nat) (e : Int), s1 = .int .u64 n ∧ s2 = .int .i64 e ∧ wr = wa ∧ Hid (scaleF neg n e = S) ∧ 1 ≤ n ∧ n ≤ 9223372036854775807 ∧ -100 ≤ e ∧ e ≤ 18 ∧ e.toNat ≤ k)
  case atStart => exact ⟨num, p, rfl, rfl, rfl, HS, h1, by omega, by omega, by omega, by omega⟩
  case round =>
    obtain ⟨n, e, rfl, rfl, rfl, he, n1, n2, e1, e2, hk⟩ := hrel
    by_cases h0 : 0 < e
    · have gi : decide ((0 : Int) < e) = true := by simpa using h0
      by_cases hn : 922337203685477580 < n
      · have HF := Lib.hid (show S = (0, 0) by rw [← he.out]; exact scale_stop h0 hn)
        have gn : decide ((922337203685477580 : Int) < (n : Int)) = true := by simp; omega
        have cr0 : wr.cell? ⟨w.heap.size, 0, none⟩ = some (.int .i64 0) := (hr).cell 0
        have fcr0 := (hr).frozen 0
        have cr1 : wr.cell? ⟨w.heap.size, 1, none⟩ = some (.int .i64 0) := (hr).cell 1
        have fcr1 := (hr).frozen 1
        have lcr := (hr).lt
        go_wp2_with fail
        exact bodyPost_ret (v := .agg #[.int .i64 0, .int .i64 0]) (by simp [results, Tryd.results40, go_sem, cr0, cr1, lcr]) rfl ⟨(by rw [HF.out]), (by repeat (first | with_reducible exact hb | (with_reducible refine Below.setCell ?_ ?hq _; case hq => first | (simp; done) | (simp; omega))))⟩
      · have gn : decide ((922337203685477580 : Int) < (n : Int)) = false := by simp; omega
        go_wp2_with fail
        go_roundg (e - 1).toNat
        case measure => omega
        case rel => exact ⟨n * 10, e - 1, by go_num, rfl, rfl, Lib.hid (by rw [← scale_step h0 (by omega)]; exact he.out), by omega, by omega, by omega, by omega, by omega⟩
    · have gi : decide ((0 : Int) < e) = false := by simpa using h0
      have hlt : w.heap.size < wr.heap.size := hr.lt
      have hB : Blk (wr.alloc (.cells #[.int .u64 2, .int .u64 5] 44)) wr.heap.size 44 #[.int .u64 2, .int .u64 5] := Blk.new _ _ _
      replace hb : Below w.heap.size w (wr.alloc (.cells #[.int .u64 2, .int .u64 5] 44)) := hb.alloc hb.size _
      replace hr : Blk (wr.alloc (.cells #[.int .u64 2, .int .u64 5] 44)) w.heap.size 23 #[.int .i64 0, .int .i64 0] := hr.old _
      obtain ⟨K, hK⟩ : ∃ x, (-e).toNat = x := ⟨_, rfl⟩
      obtain ⟨X, hX⟩ : ∃ x, restF K 0 n 1 = x := ⟨_, rfl⟩
      have HX := Lib.hid (show downT neg X = S by rw [← he.out, scale_down (by omega), hK, ← hX]; rfl)
      have HX0 := Lib.hid hX
      clear hX he HS hk
      go_wp2_with fail
      obtain ⟨B, hBe⟩ : ∃ x, wr.heap.size = x := ⟨_, rfl⟩
      rw [hBe] at hB hlt ⊢
      clear hBe
      generalize wr.alloc _ = wb at *
      go_loopg [29, 1, 7] 2 (fun k s29 s1 s7 wr => ∃ (j n d : Nat), s29 = .int .i64 j ∧ s1 = .int .u64 n ∧ s7 = .int .u64 d ∧ wr = wb ∧ j ≤ 2 ∧ 2 - j ≤ k ∧ Hid (restF K j n d = X) ∧ n ≤ 9223372036854775807 ∧ 1 ≤ d ∧ d ≤ 9223372036854775807)
      case atStart => exact ⟨0, n, 1, rfl, rfl, rfl, rfl, by omega, by omega, HX0, n2, by omega, by omega⟩
      case round =>
        clear n1 n2 HX0 h1 h2
        obtain ⟨j, n, d, rfl, rfl, rfl, rfl, hj, hk, hx, n2, d1, d2⟩ := hrel
        by_cases hj2 : j < 2
        · have gi : decide ((j : Int) < 2) = true := by simp; omega
          have hcj : wr.cell? ⟨B, j, none⟩ = some (.int .u64 (byF j : Nat)) := by
            have : j = 0 ∨ j = 1 := by omega
            rcases this with rfl | rfl
            · exact hB.cell 0
            · exact hB.cell 1
          have hb2 : 2 ≤ byF j ∧ byF j ≤ 5 := by unfold byF; split <;> decide
          have hx2 := Lib.hid ((rest_step K j n d hj2).symm.trans hx.out)
          obtain ⟨b, hbe⟩ : ∃ x, byF j = x := ⟨_, rfl⟩
          rw [hbe] at hcj hb2 hx2
          obtain ⟨b1, b2⟩ := hb2
          clear hbe hx
          go_wp2_with fail
          go_loopg [10, 1, 7] K (fun k s10 s1 s7 wx => ∃ (c : Int) (n d : Nat), s10 = .int .i64 c ∧ s1 = .int .u64 n ∧ s7 = .int .u64 d ∧ wx = wr ∧ c ≤ 0 ∧ -100 ≤ c ∧ (-c).toNat ≤ k ∧ Hid ((downF b (-c).toNat n d).bind (fun x => restF K (j + 1) x.1 x.2) = X) ∧ n ≤ 9223372036854775807 ∧ 1 ≤ d ∧ d ≤ 9223372036854775807)
          case atStart => exact ⟨e, n, d, rfl, rfl, rfl, rfl, h0, e1, by omega, by rw [hK]; exact hx2, n2, d1, d2⟩
          case round =>
            clear hx2 n2 d1 d2
            obtain ⟨c, n, d, rfl, rfl, rfl, rfl, c1, c2, hk2, hx, n2, d1, d2⟩ := hrel
            by_cases hc : c < 0
            · have gc : decide (c < (0 : Int)) = true := by simpa using hc
              obtain ⟨r, hr1, hr2⟩ : ∃ r : Nat, (-c).toNat = r + 1 ∧ (-(c + 1)).toNat = r := ⟨(-c).toNat - 1, by omega, by omega⟩
              rw [hr1] at hx
              obtain ⟨m, hm⟩ : ∃ x, n % b = x := ⟨_, rfl⟩
              obtain ⟨q, hq⟩ : ∃ x, n / b = x := ⟨_, rfl⟩
              obtain ⟨u, hu⟩ : ∃ x, 9223372036854775807 / b = x := ⟨_, rfl⟩
              have im : (n : Int) % (b : Int) = (m : Int) := by rw [← hm, Int.natCast_emod]
              have iq : (n : Int) / (b : Int) = (q : Int) := by rw [← hq, Int.natCast_ediv]
              have iu : (9223372036854775807 : Int) / (b : Int) = (u : Int) := by rw [← hu, Int.natCast_ediv]; rfl
              have q1 : q ≤ 9223372036854775807 := by rw [← hq]; exact Nat.le_trans (Nat.div_le_self _ _) n2
              have u1 : u ≤ 9223372036854775807 := by rw [← hu]; exact Nat.div_le_self _ _
              have m1 : m ≤ 9223372036854775807 := by rw [← hm]; exact Nat.le_trans (Nat.mod_le _ _) n2
              have hdu : ¬ u < d → 1 ≤ d * b ∧ d * b ≤ 9223372036854775807 := by
                intro h
                have h3 := Nat.not_lt.1 h
                rw [← hu] at h3
                exact ⟨Nat.mul_pos d1 (by omega), Nat.le_trans (Nat.mul_le_mul_right _ h3) (Nat.div_mul_le_self _ _)⟩
              have HM := Lib.hid hm
              have HQ := Lib.hid hq
              have HU := Lib.hid hu
              have HDU := Lib.hid hdu
              clear hm hq hu hdu
              by_cases h0m : m = 0
              · have gm : ((m : Int) == 0) = true := by simpa using h0m
                have hx3 := Lib.hid (show (downF b r q d).bind (fun x => restF K (j + 1) x.1 x.2) = X by rw [← hx.out, down_off (HM.out.trans h0m), HQ.out])
                clear h0m hx
                go_wp2_with fail
                go_roundg r
                case measure => omega
                case rel => exact ⟨c + 1, q, d, rfl, rfl, rfl, rfl, by omega, by omega, by omega, by rw [hr2]; exact hx3, q1, d1, d2⟩
              · have gm : ((m : Int) == 0) = false := by simpa using h0m
                by_cases hud : u < d
                · have gd : decide ((u : Int) < (d : Int)) = true := by simpa using hud
                  have HF := Lib.hid (show S = (0, 0) by
                    rw [← HX.out, ← hx.out, down_far (by rw [HM.out]; exact h0m) (by rw [HU.out]; exact hud)]; rfl)
                  have cr0 : wr.cell? ⟨w.heap.size, 0, none⟩ = some (.int .i64 0) := (hr).cell 0
                  have fcr0 := (hr).frozen 0
                  have cr1 : wr.cell? ⟨w.heap.size, 1, none⟩ = some (.int .i64 0) := (hr).cell 1
                  have fcr1 := (hr).frozen 1
                  have lcr := (hr).lt
                  clear h0m hx
                  go_wp2_with fail
                  exact bodyPost_ret (v := .agg #[.int .i64 0, .int .i64 0]) (by simp [results, Tryd.results40, go_sem, cr0, cr1, lcr]) rfl ⟨(by rw [HF.out]), (by repeat (first | with_reducible exact hb | (with_reducible refine Below.setCell ?_ ?hq _; case hq => first | (simp; done) | (simp; omega))))⟩
                · have gd : decide ((u : Int) < (d : Int)) = false := by simpa using hud
                  obtain ⟨f1, f2⟩ := HDU.out hud
                  obtain ⟨v, hv⟩ : ∃ x, d * b = x := ⟨_, rfl⟩
                  have iv : (d : Int) * (b : Int) = (v : Int) := by rw [← hv, Int.natCast_mul]
                  rw [hv] at f1 f2
                  have hx3 := Lib.hid (show (downF b r n v).bind (fun x => restF K (j + 1) x.1 x.2) = X by rw [← hx.out, down_up (by rw [HM.out]; exact h0m) (by rw [HU.out]; exact hud), hv])
                  clear h0m hx hv
                  go_wp2_with fail
                  go_roundg r
                  case measure => omega
                  case rel => exact ⟨c + 1, n, v, rfl, rfl, rfl, rfl, by omega, by omega, by omega, by rw [hr2]; exact hx3, n2, f1, f2⟩
            · obtain rfl : c = 0 := by omega
              have hx3 := Lib.hid (show restF K (j + 1) n d = X from hx.out)
              clear hx hc
              go_wp2_with fail
              go_roundg (2 - (j + 1))
              case measure => omega
              case rel => exact ⟨j + 1, n, d, by go_num, rfl, rfl, rfl, by omega, by omega, hx3, n2, d1, d2⟩
        · obtain rfl : j = 2 := by omega
          have HF := Lib.hid (show S = madeF neg n d by
            rw [madeF_fits neg n d n2 d1 d2, ← HX.out, ← hx.out]; rfl)
          have mk := fun w => made_any neg n d w (by omega) (by omega)
          rw [← HF.out] at mk
          have HMK := Lib.hid mk
          clear mk hx hj2 hk hj
          obtain ⟨a, c⟩ := S
          go_wp2_with fail
          ((with_reducible refine (HMK.out _).mono ?_); rintro e w' ⟨rfl, hbw⟩)
          obtain ⟨m1, rfl⟩ := grow_mk hbw
          clear hbw
          replace hb := below_grow hb m1
          replace hr := hr.grow m1
          generalize grow wr m1 = wr at *
          have cr0 : wr.cell? ⟨w.heap.size, 0, none⟩ = some (.int .i64 0) := (hr).cell 0
          have fcr0 := (hr).frozen 0
          have cr1 : wr.cell? ⟨w.heap.size, 1, none⟩ = some (.int .i64 0) := (hr).cell 1
          have fcr1 := (hr).frozen 1
          have lcr := (hr).lt
          go_wp2_with fail
          exact bodyPost_ret (v := .agg #[.int .i64 a, .int .i64 c]) (by simp [results, Tryd.results40, go_sem, cr0, cr1, lcr]) rfl ⟨rfl, (by repeat (first | with_reducible exact hb | (with_reducible refine Below.setCell ?_ ?hq _; case hq => first | (simp; done) | (simp; omega))))⟩

end Go.Proofs.YtgjhaanpkfheeaaDoor
