/- The library's division of 128 bits by 64. -/
import Derived.Test.YtgjhaanpkfheeaaDoorShift
import Derived.Test.YtgjhaanpkfheeaaDoorWideE
import Derived.Deep.CutBlock
import Derived.Deep.DeepCutAuto
namespace Go.Proofs.YtgjhaanpkfheeaaDoor
set_option linter.unusedVariables false
set_option linter.unusedSimpArgs false
open Go.RowKit

theorem ret_two {k : IntKind} {a b c d : Int} (h1 : a = c) (h2 : b = d) : Ending.returned (.tuple #[.int k a, .int k b]) = .returned (.tuple #[.int k c, .int k d]) := by rw [h1, h2]

set_option maxHeartbeats 4000000 in
theorem div64_any (hi lo y : Nat) (w : World) (h1 : hi < y) (h2 : lo < 18446744073709551616) (h3 : y < 18446744073709551616) :
    Calls Tryd.prog 52 #[.int .u64 hi, .int .u64 lo, .int .u64 y] w fun e w' => e = .returned (.tuple #[.int .u64 (((hi * 18446744073709551616 + lo) / y : Nat) : Int), .int .u64 (((hi * 18446744073709551616 + lo) % y : Nat) : Int)]) ∧ Below w.heap.size w w' := by
  have gy : 0 < y := by omega
  have g1 : ((y : Int) == 0) = false := by rw [beq_eq_false_iff_ne]; omega
  have g2 : decide ((y : Int) ≤ (hi : Int)) = false := by simp; omega
  have k2 : decide (y ≤ hi) = false := by simp; omega
  by_cases c0 : hi = 0
  · subst c0
    have l1 := Nat.div_le_self lo y
    have l2 := Nat.mod_lt lo gy
    have e1 : IntKind.u64.wrap ((lo : Int) / (y : Int)) = ((lo / y : Nat) : Int) := by rw [← Int.natCast_ediv]; exact wrap_nat _ (by omega)
    have e2 : IntKind.u64.wrap ((lo : Int) % (y : Int)) = ((lo % y : Nat) : Int) := by rw [← Int.natCast_emod]; exact wrap_nat _ (by omega)
    have HF := Lib.hid (show 0 * 18446744073709551616 + lo = lo by omega)
    go_enter Tryd.func52, Tryd.ntmps52
    go_wp2_with fail
    refine wp_region_grow (by kernel_rfl) (by kernel_rfl) ?_
    repeat (go_big_quiet_step (fail))
    refine wpQuiet_nil ?_
    rintro _ ⟨m, rfl⟩
    go_wp2_with fail
    go_ret2
    exact ⟨ret_two (by rw [HF.out, Int.natCast_ediv]) (by rw [HF.out, Int.natCast_emod]), grow_below _⟩
  · have g3 : ((hi : Int) == 0) = false := by rw [beq_eq_false_iff_ne]; omega
    obtain ⟨N, hN⟩ : ∃ v, v = (hi * 18446744073709551616 + lo) / y := ⟨_, rfl⟩
    obtain ⟨M, hM⟩ : ∃ v, v = (hi * 18446744073709551616 + lo) % y := ⟨_, rfl⟩
    rw [← hN, ← hM]
    have HN := Lib.hid hN
    have HM := Lib.hid hM
    clear hN hM
    obtain ⟨s, hs, es, n1, n2⟩ := lead_spec y gy h3
    have hl := fun w => lead_any y h3 w
    rw [es] at hl
    have HL := Lib.hid hl
    clear hl es
    have S := shifts hi lo y s h1 h2 hs n2
    have HS := Lib.hid (show 64 - s ≤ 64 by omega)
    generalize y * 2 ^ s = Y at *
    generalize hi * 2 ^ s + lo / 2 ^ (64 - s) = u32 at *
    generalize lo * 2 ^ s % 18446744073709551616 = u10 at *
    obtain ⟨a1, a4, a5, a6, a7, a8, a9⟩ := S
    obtain ⟨y1, hy1⟩ : ∃ v, v = Y / 4294967296 := ⟨_, rfl⟩
    obtain ⟨y0, hy0⟩ : ∃ v, v = Y % 4294967296 := ⟨_, rfl⟩
    obtain ⟨v1, hv1⟩ : ∃ v, v = u10 / 4294967296 := ⟨_, rfl⟩
    obtain ⟨v0, hv0⟩ : ∃ v, v = u10 % 4294967296 := ⟨_, rfl⟩
    have f1 : (Y : Int) / 4294967296 = (y1 : Int) := by omega
    have f2 : bits BinOp.and IntKind.u64 (Y : Int) 4294967295 = (y0 : Int) := by rw [and_low32 _ (by omega) (by omega)]; omega
    have f3 : (u10 : Int) / 4294967296 = (v1 : Int) := by omega
    have f4 : bits BinOp.and IntKind.u64 (u10 : Int) 4294967295 = (v0 : Int) := by rw [and_low32 _ (by omega) (by omega)]; omega
    have hYe : Y = y1 * 4294967296 + y0 := by omega
    have hy1b : 2147483648 ≤ y1 := by omega
    have hy1c : y1 < 4294967296 := by omega
    have hy0b : y0 < 4294967296 := by omega
    have hv1b : v1 < 4294967296 := by omega
    have hv0b : v0 < 4294967296 := by omega
    have gy1 : 0 < y1 := by omega
    have hK := Kn.start (U := u32) (d := v1) (by rw [← hYe]; exact a7) hv1b hy1b hy0b hy1c
    have q0 := Nat.div_le_self u32 y1
    have q1 := Nat.mul_div_le u32 y1
    have f5 : IntKind.u64.wrap ((u32 : Int) / (y1 : Int)) = ((u32 / y1 : Nat) : Int) := by rw [← Int.natCast_ediv]; exact wrap_nat _ (by omega)
    have hc : (u32 / y1) * y1 + u32 % y1 = u32 := by rw [Nat.mul_comm]; exact Nat.div_add_mod u32 y1
    have hr : u32 % y1 < y1 := Nat.mod_lt _ gy1
    generalize u32 / y1 = qq at *
    generalize u32 % y1 = rr at *
    have f6 : IntKind.u64.wrap ((u32 : Int) - IntKind.u64.wrap ((qq : Int) * (y1 : Int))) = (rr : Int) := by
      rw [← Int.natCast_mul]
      generalize qq * y1 = z at *
      rw [IntKind.wrap_u64, IntKind.wrap_u64]; omega
    have f8 : IntKind.u64.wrap ((u32 : Int) - (qq : Int) * (y1 : Int)) = (rr : Int) := by
      rw [← Int.natCast_mul]
      generalize qq * y1 = z at *
      rw [IntKind.wrap_u64]; omega
    have f7 : IntKind.u64.wrap ((qq : Int) * (y1 : Int)) = ((qq * y1 : Nat) : Int) := by
      rw [← Int.natCast_mul]
      generalize qq * y1 = z at *
      exact wrap_nat _ (by omega)
    have HK := Lib.hid hK
    have H6 := Lib.hid a6
    have HY := Lib.hid hYe
    have HV := Lib.hid (show u10 = v1 * 4294967296 + v0 by omega)
    have H9 := Lib.hid a9
    have H7 := Lib.hid a7
    clear hy1 hy0 hv1 hv0 hK a6 hYe a9 a7 q0 q1 hc hr n1
    go_enter Tryd.func52, Tryd.ntmps52
    go_wp2_with fail
    ((with_reducible refine (HL.out _).mono ?_); rintro e w' ⟨rfl, rfl⟩)
    go_upto_block 0 with fail
    obtain ⟨Q, hQ⟩ : ∃ v, v = (u32 * 4294967296 + v1) / (y1 * 4294967296 + y0) := ⟨_, rfl⟩
    have HQ := Lib.hid hQ
    clear hQ
    go_cut [15] (fun s wx => s = .int .u64 Q ∧ wx = w)
    case first =>
      go_wp2_with fail
      go_loopg [15, 16] qq (fun k s t wr => ∃ q r : Nat, s = .int .u64 q ∧ t = .int .u64 r ∧ wr = w ∧ Hid (Kn u32 v1 y1 y0 q r) ∧ q ≤ k)
      case atStart => exact ⟨qq, rr, rfl, rfl, rfl, HK, Nat.le_refl _⟩
      case round =>
        obtain ⟨q, r, rfl, rfl, rfl, hk, hm⟩ := hrel
        have hk1 := hk.out.small
        have hk2 := hk.out.near
        have hU : u32 < y1 * 4294967296 + y0 := by rw [← HY.out]; exact H7.out
        have hx64 : q < 4294967296 → IntKind.u64.wrap ((q : Int) * (y0 : Int)) = ((q * y0 : Nat) : Int) := fun hq => by
          rw [← Int.natCast_mul]
          refine wrap_nat _ ?_
          have := Nat.mul_lt_mul'' hq hy0b
          omega
        have hdone := fun hx => hk.out.done hU hv1b hy1b hy0b hx
        have hnext := fun hx hr => hk.out.next hU hv1b hy1b hy0b hx hr
        have hstop := fun hx hr => hk.out.stop hU hv1b hy1b hy0b hx hr
        have hless := fun hx => (hk.out.less hU hv1b hy1b hy0b hx).2.1
        rw [← HQ.out] at hdone hstop
        clear hU
        generalize hX : q * y0 = X at *
        clear hX
        rcases Nat.lt_or_ge q 4294967296 with hq | hq
        · have hx64 := hx64 hq
          have t1 : decide ((4294967296 : Int) ≤ (q : Int)) = false := by simp; omega
          rcases Nat.lt_or_ge (r * 4294967296 + v1) X with ht | ht
          · have t2 : decide ((4294967296 : Int) * (r : Int) + (v1 : Int) < (X : Int)) = true := by simp; omega
            have hx := Or.inr (a := 4294967296 ≤ q) ht
            have h1q := hless hx
            clear hdone hless
            rcases Nat.lt_or_ge (r + y1) 4294967296 with hr | hr
            · have t3 : decide ((4294967296 : Int) ≤ (r : Int) + (y1 : Int)) = false := by simp; omega
              have hn := Lib.hid (hnext hx hr)
              clear hnext hstop
              go_wp2_with fail
              go_roundg (q - 1)
              case measure => omega
              case rel => exact ⟨q - 1, r + y1, by go_num, by go_num, rfl, hn, by omega⟩
            · have t3 : decide ((4294967296 : Int) ≤ (r : Int) + (y1 : Int)) = true := by simp; omega
              have hn := Lib.hid (hstop hx hr)
              clear hnext hstop
              go_wp2_with fail
              go_meet
              case rel => exact ⟨by rw [← hn.out]; go_num, rfl⟩
          · have t2 : decide ((4294967296 : Int) * (r : Int) + (v1 : Int) < (X : Int)) = false := by simp; omega
            have hn := Lib.hid (hdone ht)
            clear hnext hstop hdone hless ht
            go_wp2_with fail
            go_meet
            case rel => exact ⟨by rw [← hn.out], rfl⟩
        · have t1 : decide ((4294967296 : Int) ≤ (q : Int)) = true := by simp; omega
          have hx := Or.inl (b := r * 4294967296 + v1 < X) hq
          clear hdone hless hx64
          rcases Nat.lt_or_ge (r + y1) 4294967296 with hr | hr
          · have t3 : decide ((4294967296 : Int) ≤ (r : Int) + (y1 : Int)) = false := by simp; omega
            have hn := Lib.hid (hnext hx hr)
            clear hnext hstop
            go_wp2_with fail
            go_roundg (q - 1)
            case measure => omega
            case rel => exact ⟨q - 1, r + y1, by go_num, by go_num, rfl, hn, by omega⟩
          · have t3 : decide ((4294967296 : Int) ≤ (r : Int) + (y1 : Int)) = true := by simp; omega
            have hn := Lib.hid (hstop hx hr)
            clear hnext hstop
            go_wp2_with fail
            go_meet
            case rel => exact ⟨by rw [← hn.out]; go_num, rfl⟩
    case rest =>
      obtain ⟨rfl, rfl⟩ := hcut
      clear HK
      have hT := Nat.div_add_mod (u32 * 4294967296 + v1) Y
      have hR := Nat.mod_lt (u32 * 4294967296 + v1) (show 0 < Y by omega)
      have hQ := HQ.out
      rw [← HY.out] at hQ
      rw [← hQ, Nat.mul_comm Y Q] at hT
      obtain ⟨R, hRe⟩ : ∃ v, v = (u32 * 4294967296 + v1) % Y := ⟨_, rfl⟩
      rw [← hRe] at hT hR
      clear hRe
      clear hQ HQ
      have HT := Lib.hid hT
      have e0 := Nat.div_le_self R y1
      have e1 : R / y1 * y1 + R % y1 = R := by rw [Nat.mul_comm]; exact Nat.div_add_mod R y1
      have e2 : R % y1 < y1 := Nat.mod_lt _ gy1
      have hK := Kn.start (U := R) (d := v0) (by rw [← HY.out]; exact hR) hv0b hy1b hy0b hy1c
      have r1 : IntKind.u64.wrap (IntKind.u64.wrap (IntKind.u64.wrap ((u32 : Int) * 4294967296) + (v1 : Int)) - IntKind.u64.wrap ((Q : Int) * (Y : Int))) = (R : Int) := by
        rw [← Int.natCast_mul]
        generalize Q * Y = z at *
        rw [IntKind.wrap_u64, IntKind.wrap_u64, IntKind.wrap_u64, IntKind.wrap_u64]; omega
      have r2 : IntKind.u64.wrap ((R : Int) / (y1 : Int)) = ((R / y1 : Nat) : Int) := by rw [← Int.natCast_ediv]; exact wrap_nat _ (by omega)
      generalize R / y1 = ss at *
      generalize R % y1 = tt at *
      have r3 : IntKind.u64.wrap ((R : Int) - (ss : Int) * (y1 : Int)) = (tt : Int) := by
        rw [← Int.natCast_mul]
        generalize ss * y1 = z at *
        rw [IntKind.wrap_u64]; omega
      have r4 : IntKind.u64.wrap ((ss : Int) * (y1 : Int)) = ((ss * y1 : Nat) : Int) := by
        rw [← Int.natCast_mul]
        generalize ss * y1 = z at *
        exact wrap_nat _ (by omega)
      have HK := Lib.hid hK
      have H7b := Lib.hid hR
      clear hK hT e0 e1
      go_upto_block 2 with fail
      obtain ⟨Pq, hP⟩ : ∃ v, v = (R * 4294967296 + v0) / (y1 * 4294967296 + y0) := ⟨_, rfl⟩
      have HP := Lib.hid hP
      clear hP
      go_cut [18] (fun s wx => s = .int .u64 Pq ∧ wx = wc)
      case first =>
        go_wp2_with fail
        go_loopg [16, 18] ss (fun k t s wr => ∃ q r : Nat, s = .int .u64 q ∧ t = .int .u64 r ∧ wr = wc ∧ Hid (Kn R v0 y1 y0 q r) ∧ q ≤ k)
        case atStart => exact ⟨ss, tt, rfl, rfl, rfl, HK, Nat.le_refl _⟩
        case round =>
          obtain ⟨q, r, rfl, rfl, rfl, hk, hm⟩ := hrel
          have hk1 := hk.out.small
          have hk2 := hk.out.near
          have hU : R < y1 * 4294967296 + y0 := by rw [← HY.out]; exact H7b.out
          have hx64 : q < 4294967296 → IntKind.u64.wrap ((q : Int) * (y0 : Int)) = ((q * y0 : Nat) : Int) := fun hq => by
            rw [← Int.natCast_mul]
            refine wrap_nat _ ?_
            have := Nat.mul_lt_mul'' hq hy0b
            omega
          have hdone := fun hx => hk.out.done hU hv0b hy1b hy0b hx
          have hnext := fun hx hr => hk.out.next hU hv0b hy1b hy0b hx hr
          have hstop := fun hx hr => hk.out.stop hU hv0b hy1b hy0b hx hr
          have hless := fun hx => (hk.out.less hU hv0b hy1b hy0b hx).2.1
          rw [← HP.out] at hdone hstop
          clear hU
          generalize hX : q * y0 = X at *
          clear hX
          rcases Nat.lt_or_ge q 4294967296 with hq | hq
          · have hx64 := hx64 hq
            have t1 : decide ((4294967296 : Int) ≤ (q : Int)) = false := by simp; omega
            rcases Nat.lt_or_ge (r * 4294967296 + v0) X with ht | ht
            · have t2 : decide ((4294967296 : Int) * (r : Int) + (v0 : Int) < (X : Int)) = true := by simp; omega
              have hx := Or.inr (a := 4294967296 ≤ q) ht
              have h1q := hless hx
              clear hdone hless
              rcases Nat.lt_or_ge (r + y1) 4294967296 with hr | hr
              · have t3 : decide ((4294967296 : Int) ≤ (r : Int) + (y1 : Int)) = false := by simp; omega
                have hn := Lib.hid (hnext hx hr)
                clear hnext hstop
                go_wp2_with fail
                go_roundg (q - 1)
                case measure => omega
                case rel => exact ⟨q - 1, r + y1, by go_num, by go_num, rfl, hn, by omega⟩
              · have t3 : decide ((4294967296 : Int) ≤ (r : Int) + (y1 : Int)) = true := by simp; omega
                have hn := Lib.hid (hstop hx hr)
                clear hnext hstop
                go_wp2_with fail
                go_meet
                case rel => exact ⟨by rw [← hn.out]; go_num, rfl⟩
            · have t2 : decide ((4294967296 : Int) * (r : Int) + (v0 : Int) < (X : Int)) = false := by simp; omega
              have hn := Lib.hid (hdone ht)
              clear hnext hstop hdone hless ht
              go_wp2_with fail
              go_meet
              case rel => exact ⟨by rw [← hn.out], rfl⟩
          · have t1 : decide ((4294967296 : Int) ≤ (q : Int)) = true := by simp; omega
            have hx := Or.inl (b := r * 4294967296 + v0 < X) hq
            clear hdone hless hx64
            rcases Nat.lt_or_ge (r + y1) 4294967296 with hr | hr
            · have t3 : decide ((4294967296 : Int) ≤ (r : Int) + (y1 : Int)) = false := by simp; omega
              have hn := Lib.hid (hnext hx hr)
              clear hnext hstop
              go_wp2_with fail
              go_roundg (q - 1)
              case measure => omega
              case rel => exact ⟨q - 1, r + y1, by go_num, by go_num, rfl, hn, by omega⟩
            · have t3 : decide ((4294967296 : Int) ≤ (r : Int) + (y1 : Int)) = true := by simp; omega
              have hn := Lib.hid (hstop hx hr)
              clear hnext hstop
              go_wp2_with fail
              go_meet
              case rel => exact ⟨by rw [← hn.out]; go_num, rfl⟩
      case rest =>
        obtain ⟨rfl, hwc⟩ := hcut
        subst hwc
        clear HK r1 r2 r3 r4
        have hT := Nat.div_add_mod (R * 4294967296 + v0) Y
        have hR := Nat.mod_lt (R * 4294967296 + v0) (show 0 < Y by omega)
        have hP := HP.out
        rw [← HY.out] at hP
        rw [← hP, Nat.mul_comm Y Pq] at hT
        obtain ⟨Z, hZe⟩ : ∃ v, v = (R * 4294967296 + v0) % Y := ⟨_, rfl⟩
        rw [← hZe] at hT hR
        clear hZe
        clear hP HP
        obtain ⟨k1, k2⟩ := knuth hi lo y s u32 v1 v0 Y Q R Pq Z gy H9.out (by rw [H6.out]; have := HV.out; omega) HT.out.symm hT.symm hR
        rw [← HN.out] at k1
        rw [← HM.out] at k2
        have hq1 : N < 18446744073709551616 := by
          rw [HN.out, Nat.div_lt_iff_lt_mul gy]; omega
        have p1 : IntKind.u64.wrap (IntKind.u64.wrap ((Q : Int) * 4294967296) + (Pq : Int)) = (N : Int) := by
          rw [k1, IntKind.wrap_u64, IntKind.wrap_u64]; omega
        have p2 : IntKind.u64.wrap (IntKind.u64.wrap (IntKind.u64.wrap ((R : Int) * 4294967296) + (v0 : Int)) - IntKind.u64.wrap ((Pq : Int) * (Y : Int))) = (Z : Int) := by
          rw [← Int.natCast_mul]
          generalize Pq * Y = z at *
          rw [IntKind.wrap_u64, IntKind.wrap_u64, IntKind.wrap_u64, IntKind.wrap_u64]; omega
        have p3 : (Z : Int) / 2 ^ s = (M : Int) := by
          rw [cast_shr, k2, Nat.mul_div_cancel _ (Nat.two_pow_pos s)]
        clear hT k1 k2
        go_wp2_with fail
        go_ret2
        exact ⟨rfl, Below.refl _ _⟩

end Go.Proofs.YtgjhaanpkfheeaaDoor
