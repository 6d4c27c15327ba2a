/- The sum of two fractions, in the program: the walk. -/
import Derived.Test.YtgjhaanpkfheeaaDoorPlusM
import Derived.Test.YtgjhaanpkfheeaaDoorWideB
import Derived.Test.YtgjhaanpkfheeaaDoorLooseB
import Derived.Test.YtgjhaanpkfheeaaDoorFoldA
import Derived.Deep.CutBlock
import Derived.Deep.DeepCutAuto
namespace Go.Proofs.YtgjhaanpkfheeaaDoor
set_option linter.unusedVariables false
set_option linter.unusedSimpArgs false
open Go.RowKit

theorem add64_0n (x y : Nat) (hx : x < 18446744073709551616) (hy : y < 18446744073709551616) (w : World) : (callFunc 49 #[.int .u64 x, .int .u64 y, .int .u64 0]).run Tryd.prog w =
    .ok (.value (.tuple #[.int .u64 (((x : Int) + y) % 18446744073709551616), .int .u64 (((x : Int) + y) / 18446744073709551616)])) w := add64_0 (x : Int) y (by omega) (by omega) (by omega) (by omega) w
theorem add64n (x y : Nat) (c : Int) (hx : x < 18446744073709551616) (hy : y < 18446744073709551616) (hc0 : 0 ≤ c) (hc : c ≤ 1) (w : World) : (callFunc 49 #[.int .u64 x, .int .u64 y, .int .u64 c]).run Tryd.prog w =
    .ok (.value (.tuple #[.int .u64 (((x : Int) + y + c) % 18446744073709551616), .int .u64 (((x : Int) + y + c) / 18446744073709551616)])) w := add64 (x : Int) y c (by omega) (by omega) (by omega) (by omega) hc0 hc w
theorem sub64_0n (x y : Nat) (hy : y < 18446744073709551616) (w : World) : (callFunc 50 #[.int .u64 x, .int .u64 y, .int .u64 0]).run Tryd.prog w =
    .ok (.value (.tuple #[.int .u64 (((x : Int) - y) % 18446744073709551616), .int .u64 (if (x : Int) < y then 1 else 0)])) w := sub64_0 (x : Int) y (by omega) (by omega) (by omega) w
theorem sub64_1n (x y : Nat) (hy : y < 18446744073709551616) (w : World) : (callFunc 50 #[.int .u64 x, .int .u64 y, .int .u64 1]).run Tryd.prog w =
    .ok (.value (.tuple #[.int .u64 (((x : Int) - y - 1) % 18446744073709551616), .int .u64 (if (x : Int) < y + 1 then 1 else 0)])) w := sub64 (x : Int) y 1 (by omega) (by omega) (by omega) (by omega) (by omega) w

set_option maxRecDepth 20000 in
set_option maxHeartbeats 4000000 in
theorem plus_any (a b : Rt) (w : World) (ha : Is64 a) (hb : Is64 b) (sa : sureB a = true) (sb : sureB b = true) :
    Calls Tryd.prog 25 #[rv a, rv b] w fun e w' => e = .returned (rv (addF a b)) ∧ Below w.heap.size w w' := by
  have d1 := sureB_den sa
  have d2 := sureB_den sb
  have n1 := sureB_num sa
  have n2 := sureB_num sb
  have HZ := Lib.hid (fun h => addF_zero sa sb h)
  have HT := Lib.hid (addF_t sa sb)
  have HP := Lib.hid (show tPart a b = (if decide (a.1 < 0) = decide (b.1 < 0) then (decide (a.1 < 0), sA a b + sB a b) else if sA a b < sB a b then (!decide (a.1 < 0), sB a b - sA a b) else (decide (a.1 < 0), sA a b - sB a b)) from rfl)
  have hA : sA a b = a.1.natAbs * (b.2.toNat / Nat.gcd a.2.toNat b.2.toNat) := rfl
  have hB : sB a b = b.1.natAbs * (a.2.toNat / Nat.gcd a.2.toNat b.2.toNat) := rfl
  have hTle := tPart_le a b
  generalize addF a b = R at *
  generalize tPart a b = tp at *
  generalize sA a b = A at *
  generalize sB a b = B at *
  clear sa sb
  obtain ⟨n, d⟩ := a; obtain ⟨p, q⟩ := b
  obtain ⟨b1, b2, b3, b4⟩ := ha
  obtain ⟨b5, b6, b7, b8⟩ := hb
  simp only at b1 b2 b3 b4 b5 b6 b7 b8 d1 n1 d2 n2 HT HP hA hB
  have hx1 : d.toNat < 18446744073709551616 := by omega
  have hx2 : q.toNat < 18446744073709551616 := by omega
  have e1 : ((d.toNat : Nat) : Int) = d := by omega
  have e2 : ((q.toNat : Nat) : Int) = q := by omega
  have e3 : IntKind.u64.wrap d = d := by rw [IntKind.wrap_u64]; omega
  have e4 : IntKind.u64.wrap q = q := by rw [IntKind.wrap_u64]; omega
  have G1 := Lib.hid (fun w => e1 ▸ e2 ▸ gcd_any d.toNat q.toNat w hx1 hx2)
  have gp : 0 < Nat.gcd d.toNat q.toNat := Nat.gcd_pos_of_pos_right _ (by omega)
  have gle : Nat.gcd d.toNat q.toNat ≤ q.toNat := Nat.gcd_le_right _ (by omega)
  generalize Nat.gcd d.toNat q.toNat = g at *
  have l1 := Nat.div_le_self d.toNat g
  have l2 := Nat.div_le_self q.toNat g
  have f3 : d / (g : Int) = ((d.toNat / g : Nat) : Int) := by rw [Int.natCast_ediv, e1]
  have f4 : q / (g : Int) = ((q.toNat / g : Nat) : Int) := by rw [Int.natCast_ediv, e2]
  have f5 : IntKind.u64.wrap ((d.toNat / g : Nat) : Int) = ((d.toNat / g : Nat) : Int) := wrap_nat _ (by omega)
  have f6 : IntKind.u64.wrap ((q.toNat / g : Nat) : Int) = ((q.toNat / g : Nat) : Int) := wrap_nat _ (by omega)
  have M1 := Lib.hid (fun w => mul64_any n.natAbs (q.toNat / g) (by omega) (by omega) w)
  have M2 := Lib.hid (fun w => mul64_any p.natAbs (d.toNat / g) (by omega) (by omega) w)
  have lA : A < 85070591730234615865843651857942052864 := by rw [hA]; exact Nat.lt_of_le_of_lt (Nat.mul_le_mul (show n.natAbs ≤ 9223372036854775807 by omega) (show q.toNat / g ≤ 9223372036854775807 by omega)) (by decide)
  have lB : B < 85070591730234615865843651857942052864 := by rw [hB]; exact Nat.lt_of_le_of_lt (Nat.mul_le_mul (show p.natAbs ≤ 9223372036854775807 by omega) (show d.toNat / g ≤ 9223372036854775807 by omega)) (by decide)
  rw [← hA] at M1
  rw [← hB] at M2
  clear hA hB
  have hov : q.toNat / g < 18446744073709551616 := by omega
  have hun : d.toNat / g < 18446744073709551616 := by omega
  generalize q.toNat / g = over at *
  generalize d.toNat / g = under at *
  obtain ⟨ah, hah⟩ : ∃ v, v = A / 18446744073709551616 := ⟨_, rfl⟩
  obtain ⟨al, hal⟩ : ∃ v, v = A % 18446744073709551616 := ⟨_, rfl⟩
  obtain ⟨bh, hbh⟩ : ∃ v, v = B / 18446744073709551616 := ⟨_, rfl⟩
  obtain ⟨bl, hbl⟩ : ∃ v, v = B % 18446744073709551616 := ⟨_, rfl⟩
  rw [← hah, ← hal] at M1
  rw [← hbh, ← hbl] at M2
  have HA := Lib.hid (show A = ah * 18446744073709551616 + al by omega)
  have HB := Lib.hid (show B = bh * 18446744073709551616 + bl by omega)
  have v1 : ah < 4611686018427387904 := by omega
  have v2 : al < 18446744073709551616 := by omega
  have v3 : bh < 4611686018427387904 := by omega
  have v4 : bl < 18446744073709551616 := by omega
  have v1b : ah < 18446744073709551616 := by omega
  have v3b : bh < 18446744073709551616 := by omega
  have V1 := Lib.hid v1
  have V3 := Lib.hid v3
  clear hah hal hbh hbl lA lB e1 e2 v1 v3
  obtain ⟨neg, T⟩ := tp
  simp only at HZ HT HP hTle
  obtain ⟨h, hh⟩ : ∃ v, v = T / 18446744073709551616 := ⟨_, rfl⟩
  obtain ⟨l, hl⟩ : ∃ v, v = T % 18446744073709551616 := ⟨_, rfl⟩
  have HTT := Lib.hid (show T = h * 18446744073709551616 + l by omega)
  have vl : l < 18446744073709551616 := by omega
  have VH := Lib.hid (show h < 9223372036854775808 by have := HA.out; have := HB.out; have := V1.out; have := V3.out; omega)
  clear hTle
  clear hh hl
  obtain ⟨nb, hnb⟩ : ∃ v, decide (n < 0) = v := ⟨_, rfl⟩
  obtain ⟨pb, hpb⟩ : ∃ v, decide (p < 0) = v := ⟨_, rfl⟩
  rw [hnb, hpb] at HP
  go_enter Tryd.func25, Tryd.ntmps25
  go_wp2_with fail
  ((with_reducible refine (G1.out _).mono ?_); rintro e w' ⟨rfl, rfl⟩)
  go_wp2_with fail
  refine wp_region_grow (by kernel_rfl) (by kernel_rfl) ?_
  repeat (go_big_quiet_step (fail))
  refine wpQuiet_nil ?_
  rintro _ ⟨m2, rfl⟩
  go_wp2_with fail
  ((with_reducible refine (size_any n _ b1 b2).mono ?_); rintro e w' ⟨rfl, rfl⟩)
  go_wp2_with fail
  ((with_reducible refine (M1.out _).mono ?_); rintro e w' ⟨rfl, rfl⟩)
  go_wp2_with fail
  ((with_reducible refine (size_any p _ b5 b6).mono ?_); rintro e w' ⟨rfl, rfl⟩)
  go_wp2_with fail
  ((with_reducible refine (M2.out _).mono ?_); rintro e w' ⟨rfl, rfl⟩)
  go_upto_block 0 with fail
  have hb1 : Below w.heap.size w (((w.alloc (.cells #[.int .i64 n, .int .i64 d] 23)).alloc (.cells #[.int .i64 p, .int .i64 q] 23)).alloc (.cells #[.int .i64 0, .int .i64 0] 23)) := ((below_box _ _).alloc (by simp) _).alloc (by simp; omega) _
  have h2 : Blk (((w.alloc (.cells #[.int .i64 n, .int .i64 d] 23)).alloc (.cells #[.int .i64 p, .int .i64 q] 23)).alloc (.cells #[.int .i64 0, .int .i64 0] 23)) (w.heap.size + 1) 23 #[.int .i64 p, .int .i64 q] := (Blk.new2 _ _ _ _).old _
  have h3 : Blk (((w.alloc (.cells #[.int .i64 n, .int .i64 d] 23)).alloc (.cells #[.int .i64 p, .int .i64 q] 23)).alloc (.cells #[.int .i64 0, .int .i64 0] 23)) (w.heap.size + 1 + 1) 23 #[.int .i64 0, .int .i64 0] := (Blk.new _ _ _).moved (by simp)
  replace h2 := h2.grow m2; replace h3 := h3.grow m2
  replace hb1 := below_grow hb1 m2
  generalize grow _ m2 = wg at *
  have cb0 : wg.cell? ⟨w.heap.size + 1, 0, none⟩ = some (.int .i64 p) := (h2).cell 0
  have fcb0 := (h2).frozen 0
  have cb1 : wg.cell? ⟨w.heap.size + 1, 1, none⟩ = some (.int .i64 q) := (h2).cell 1
  have fcb1 := (h2).frozen 1
  have lcb := (h2).lt
  go_cut [12, 13, 14] (fun s t u wx => s = .bool neg ∧ t = .int .u64 h ∧ u = .int .u64 l ∧ wx = wg)
  case first =>
    have hP := HP.out
    have HA2 := HA.out; have HB2 := HB.out; have HT2 := HTT.out
    rw [HA2, HB2] at hP
    clear HT HZ h2 h3 hb1
    cases nb <;> cases pb
    · rw [if_pos rfl] at hP
      have e1 : neg = false := congrArg Prod.fst hP
      have e2 : T = ah * 18446744073709551616 + al + (bh * 18446744073709551616 + bl) := congrArg Prod.snd hP
      have Q := Lib.hid (And.intro e2 HT2)
      have k0 : (0 : Int) ≤ ((al : Int) + bl) / 18446744073709551616 := by omega
      have k1 : ((al : Int) + bl) / 18446744073709551616 ≤ 1 := by omega
      clear hP e2 HT2 HA2 HB2
      go_wp2_with (first | simp only [add64_0n al bl v2 v4] | simp only [add64n ah bh _ v1b v3b k0 k1])
      go_meet
      case rel =>
        have v1 := V1.out; have v3 := V3.out
        obtain ⟨q1, q2⟩ := Q.out
        exact ⟨congrArg Value.bool e1.symm, congrArg (Value.int .u64) (by omega), congrArg (Value.int .u64) (by omega), rfl⟩
    · rw [if_neg (by decide)] at hP
      rcases Nat.lt_trichotomy ah bh with c | c | c
      · by_cases c2 : bl < al
        · have g9 : decide (bl < al) = true := by simpa using c2
          rw [if_pos (by omega)] at hP
          have e1 : neg = true := congrArg Prod.fst hP
          have e2 : T = (bh * 18446744073709551616 + bl) - (ah * 18446744073709551616 + al) := congrArg Prod.snd hP
          have Q := Lib.hid (And.intro e2 HT2)
          have g3 : decide ((ah : Int) < (bh : Int)) = true := by first | (simp; omega) | simp
          have k3 : decide (ah < bh) = true := by first | (simp; omega) | simp
          have g4 : ((ah : Int) == (bh : Int)) = false := by first | (simp; omega) | simp
          have k4 : (ah == bh) = false := by first | (simp; omega) | simp
          have g6 : decide ((al : Int) < (bl : Int)) = false := by first | (simp; omega) | simp
          have k6 : decide (al < bl) = false := by first | (simp; omega) | simp
          have i1 : (if (bl : Int) < (al : Int) then (1 : Int) else 0) = 1 := if_pos (by omega)
          have i2 : (if (bh : Int) < (ah : Int) + 1 then (1 : Int) else 0) = 0 := if_neg (by omega)
          clear hP e2 HT2 HA2 HB2
          go_wp2_with (first | simp only [sub64_0n bl al v2] | simp only [sub64_1n bh ah v1b])
          go_meet
          case rel =>
            have v1 := V1.out; have v3 := V3.out
            obtain ⟨q1, q2⟩ := Q.out
            exact ⟨congrArg Value.bool e1.symm, congrArg (Value.int .u64) (by omega), congrArg (Value.int .u64) (by omega), rfl⟩
        · by_cases c3 : al < bl
          · skip
            rw [if_pos (by omega)] at hP
            have e1 : neg = true := congrArg Prod.fst hP
            have e2 : T = (bh * 18446744073709551616 + bl) - (ah * 18446744073709551616 + al) := congrArg Prod.snd hP
            have Q := Lib.hid (And.intro e2 HT2)
            have g3 : decide ((ah : Int) < (bh : Int)) = true := by first | (simp; omega) | simp
            have k3 : decide (ah < bh) = true := by first | (simp; omega) | simp
            have g4 : ((ah : Int) == (bh : Int)) = false := by first | (simp; omega) | simp
            have k4 : (ah == bh) = false := by first | (simp; omega) | simp
            have g6 : decide ((al : Int) < (bl : Int)) = true := by first | (simp; omega) | simp
            have k6 : decide (al < bl) = true := by first | (simp; omega) | simp
            have i1 : (if (bl : Int) < (al : Int) then (1 : Int) else 0) = 0 := if_neg (by omega)
            have i2 : (if (bh : Int) < (ah : Int) then (1 : Int) else 0) = 0 := if_neg (by omega)
            clear hP e2 HT2 HA2 HB2
            go_wp2_with (first | simp only [sub64_0n bl al v2] | simp only [sub64_0n bh ah v1b])
            go_meet
            case rel =>
              have v1 := V1.out; have v3 := V3.out
              obtain ⟨q1, q2⟩ := Q.out
              exact ⟨congrArg Value.bool e1.symm, congrArg (Value.int .u64) (by omega), congrArg (Value.int .u64) (by omega), rfl⟩
          · skip
            rw [if_pos (by omega)] at hP
            have e1 : neg = true := congrArg Prod.fst hP
            have e2 : T = (bh * 18446744073709551616 + bl) - (ah * 18446744073709551616 + al) := congrArg Prod.snd hP
            have Q := Lib.hid (And.intro e2 HT2)
            have g3 : decide ((ah : Int) < (bh : Int)) = true := by first | (simp; omega) | simp
            have k3 : decide (ah < bh) = true := by first | (simp; omega) | simp
            have g4 : ((ah : Int) == (bh : Int)) = false := by first | (simp; omega) | simp
            have k4 : (ah == bh) = false := by first | (simp; omega) | simp
            have g6 : decide ((al : Int) < (bl : Int)) = false := by first | (simp; omega) | simp
            have k6 : decide (al < bl) = false := by first | (simp; omega) | simp
            have i1 : (if (bl : Int) < (al : Int) then (1 : Int) else 0) = 0 := if_neg (by omega)
            have i2 : (if (bh : Int) < (ah : Int) then (1 : Int) else 0) = 0 := if_neg (by omega)
            clear hP e2 HT2 HA2 HB2
            go_wp2_with (first | simp only [sub64_0n bl al v2] | simp only [sub64_0n bh ah v1b])
            go_meet
            case rel =>
              have v1 := V1.out; have v3 := V3.out
              obtain ⟨q1, q2⟩ := Q.out
              exact ⟨congrArg Value.bool e1.symm, congrArg (Value.int .u64) (by omega), congrArg (Value.int .u64) (by omega), rfl⟩
      · subst c
        by_cases c2 : al < bl
        · skip
          rw [if_pos (by omega)] at hP
          have e1 : neg = true := congrArg Prod.fst hP
          have e2 : T = (ah * 18446744073709551616 + bl) - (ah * 18446744073709551616 + al) := congrArg Prod.snd hP
          have Q := Lib.hid (And.intro e2 HT2)
          have g3 : decide ((ah : Int) < (ah : Int)) = false := by first | (simp; omega) | simp
          have k3 : decide (ah < ah) = false := by first | (simp; omega) | simp
          have g4 : ((ah : Int) == (ah : Int)) = true := by first | (simp; omega) | simp
          have k4 : (ah == ah) = true := by first | (simp; omega) | simp
          have g6 : decide ((al : Int) < (bl : Int)) = true := by first | (simp; omega) | simp
          have k6 : decide (al < bl) = true := by first | (simp; omega) | simp
          have i1 : (if (bl : Int) < (al : Int) then (1 : Int) else 0) = 0 := if_neg (by omega)
          have i2 : (if (ah : Int) < (ah : Int) then (1 : Int) else 0) = 0 := if_neg (by omega)
          clear hP e2 HT2 HA2 HB2
          go_wp2_with (first | simp only [sub64_0n bl al v2] | simp only [sub64_0n ah ah v1b])
          go_meet
          case rel =>
            have v1 := V1.out; have v3 := V3.out
            obtain ⟨q1, q2⟩ := Q.out
            exact ⟨congrArg Value.bool e1.symm, congrArg (Value.int .u64) (by omega), congrArg (Value.int .u64) (by omega), rfl⟩
        · skip
          rw [if_neg (by omega)] at hP
          have e1 : neg = false := congrArg Prod.fst hP
          have e2 : T = (ah * 18446744073709551616 + al) - (ah * 18446744073709551616 + bl) := congrArg Prod.snd hP
          have Q := Lib.hid (And.intro e2 HT2)
          have g3 : decide ((ah : Int) < (ah : Int)) = false := by first | (simp; omega) | simp
          have k3 : decide (ah < ah) = false := by first | (simp; omega) | simp
          have g4 : ((ah : Int) == (ah : Int)) = true := by first | (simp; omega) | simp
          have k4 : (ah == ah) = true := by first | (simp; omega) | simp
          have g6 : decide ((al : Int) < (bl : Int)) = false := by first | (simp; omega) | simp
          have k6 : decide (al < bl) = false := by first | (simp; omega) | simp
          have i1 : (if (al : Int) < (bl : Int) then (1 : Int) else 0) = 0 := if_neg (by omega)
          have i2 : (if (ah : Int) < (ah : Int) then (1 : Int) else 0) = 0 := if_neg (by omega)
          clear hP e2 HT2 HA2 HB2
          go_wp2_with (first | simp only [sub64_0n al bl v4] | simp only [sub64_0n ah ah v1b])
          go_meet
          case rel =>
            have v1 := V1.out; have v3 := V3.out
            obtain ⟨q1, q2⟩ := Q.out
            exact ⟨congrArg Value.bool e1.symm, congrArg (Value.int .u64) (by omega), congrArg (Value.int .u64) (by omega), rfl⟩
      · by_cases c2 : al < bl
        · skip
          rw [if_neg (by omega)] at hP
          have e1 : neg = false := congrArg Prod.fst hP
          have e2 : T = (ah * 18446744073709551616 + al) - (bh * 18446744073709551616 + bl) := congrArg Prod.snd hP
          have Q := Lib.hid (And.intro e2 HT2)
          have g3 : decide ((ah : Int) < (bh : Int)) = false := by first | (simp; omega) | simp
          have k3 : decide (ah < bh) = false := by first | (simp; omega) | simp
          have g4 : ((ah : Int) == (bh : Int)) = false := by first | (simp; omega) | simp
          have k4 : (ah == bh) = false := by first | (simp; omega) | simp
          have g6 : decide ((al : Int) < (bl : Int)) = true := by first | (simp; omega) | simp
          have k6 : decide (al < bl) = true := by first | (simp; omega) | simp
          have i1 : (if (al : Int) < (bl : Int) then (1 : Int) else 0) = 1 := if_pos (by omega)
          have i2 : (if (ah : Int) < (bh : Int) + 1 then (1 : Int) else 0) = 0 := if_neg (by omega)
          clear hP e2 HT2 HA2 HB2
          go_wp2_with (first | simp only [sub64_0n al bl v4] | simp only [sub64_1n ah bh v3b])
          go_meet
          case rel =>
            have v1 := V1.out; have v3 := V3.out
            obtain ⟨q1, q2⟩ := Q.out
            exact ⟨congrArg Value.bool e1.symm, congrArg (Value.int .u64) (by omega), congrArg (Value.int .u64) (by omega), rfl⟩
        · skip
          rw [if_neg (by omega)] at hP
          have e1 : neg = false := congrArg Prod.fst hP
          have e2 : T = (ah * 18446744073709551616 + al) - (bh * 18446744073709551616 + bl) := congrArg Prod.snd hP
          have Q := Lib.hid (And.intro e2 HT2)
          have g3 : decide ((ah : Int) < (bh : Int)) = false := by first | (simp; omega) | simp
          have k3 : decide (ah < bh) = false := by first | (simp; omega) | simp
          have g4 : ((ah : Int) == (bh : Int)) = false := by first | (simp; omega) | simp
          have k4 : (ah == bh) = false := by first | (simp; omega) | simp
          have g6 : decide ((al : Int) < (bl : Int)) = false := by first | (simp; omega) | simp
          have k6 : decide (al < bl) = false := by first | (simp; omega) | simp
          have i1 : (if (al : Int) < (bl : Int) then (1 : Int) else 0) = 0 := if_neg (by omega)
          have i2 : (if (ah : Int) < (bh : Int) then (1 : Int) else 0) = 0 := if_neg (by omega)
          clear hP e2 HT2 HA2 HB2
          go_wp2_with (first | simp only [sub64_0n al bl v4] | simp only [sub64_0n ah bh v3b])
          go_meet
          case rel =>
            have v1 := V1.out; have v3 := V3.out
            obtain ⟨q1, q2⟩ := Q.out
            exact ⟨congrArg Value.bool e1.symm, congrArg (Value.int .u64) (by omega), congrArg (Value.int .u64) (by omega), rfl⟩
    · rw [if_neg (by decide)] at hP
      rcases Nat.lt_trichotomy ah bh with c | c | c
      · by_cases c2 : bl < al
        · have g9 : decide (bl < al) = true := by simpa using c2
          rw [if_pos (by omega)] at hP
          have e1 : neg = false := congrArg Prod.fst hP
          have e2 : T = (bh * 18446744073709551616 + bl) - (ah * 18446744073709551616 + al) := congrArg Prod.snd hP
          have Q := Lib.hid (And.intro e2 HT2)
          have g3 : decide ((ah : Int) < (bh : Int)) = true := by first | (simp; omega) | simp
          have k3 : decide (ah < bh) = true := by first | (simp; omega) | simp
          have g4 : ((ah : Int) == (bh : Int)) = false := by first | (simp; omega) | simp
          have k4 : (ah == bh) = false := by first | (simp; omega) | simp
          have g6 : decide ((al : Int) < (bl : Int)) = false := by first | (simp; omega) | simp
          have k6 : decide (al < bl) = false := by first | (simp; omega) | simp
          have i1 : (if (bl : Int) < (al : Int) then (1 : Int) else 0) = 1 := if_pos (by omega)
          have i2 : (if (bh : Int) < (ah : Int) + 1 then (1 : Int) else 0) = 0 := if_neg (by omega)
          clear hP e2 HT2 HA2 HB2
          go_wp2_with (first | simp only [sub64_0n bl al v2] | simp only [sub64_1n bh ah v1b])
          go_meet
          case rel =>
            have v1 := V1.out; have v3 := V3.out
            obtain ⟨q1, q2⟩ := Q.out
            exact ⟨congrArg Value.bool e1.symm, congrArg (Value.int .u64) (by omega), congrArg (Value.int .u64) (by omega), rfl⟩
        · by_cases c3 : al < bl
          · skip
            rw [if_pos (by omega)] at hP
            have e1 : neg = false := congrArg Prod.fst hP
            have e2 : T = (bh * 18446744073709551616 + bl) - (ah * 18446744073709551616 + al) := congrArg Prod.snd hP
            have Q := Lib.hid (And.intro e2 HT2)
            have g3 : decide ((ah : Int) < (bh : Int)) = true := by first | (simp; omega) | simp
            have k3 : decide (ah < bh) = true := by first | (simp; omega) | simp
            have g4 : ((ah : Int) == (bh : Int)) = false := by first | (simp; omega) | simp
            have k4 : (ah == bh) = false := by first | (simp; omega) | simp
            have g6 : decide ((al : Int) < (bl : Int)) = true := by first | (simp; omega) | simp
            have k6 : decide (al < bl) = true := by first | (simp; omega) | simp
            have i1 : (if (bl : Int) < (al : Int) then (1 : Int) else 0) = 0 := if_neg (by omega)
            have i2 : (if (bh : Int) < (ah : Int) then (1 : Int) else 0) = 0 := if_neg (by omega)
            clear hP e2 HT2 HA2 HB2
            go_wp2_with (first | simp only [sub64_0n bl al v2] | simp only [sub64_0n bh ah v1b])
            go_meet
            case rel =>
              have v1 := V1.out; have v3 := V3.out
              obtain ⟨q1, q2⟩ := Q.out
              exact ⟨congrArg Value.bool e1.symm, congrArg (Value.int .u64) (by omega), congrArg (Value.int .u64) (by omega), rfl⟩
          · skip
            rw [if_pos (by omega)] at hP
            have e1 : neg = false := congrArg Prod.fst hP
            have e2 : T = (bh * 18446744073709551616 + bl) - (ah * 18446744073709551616 + al) := congrArg Prod.snd hP
            have Q := Lib.hid (And.intro e2 HT2)
            have g3 : decide ((ah : Int) < (bh : Int)) = true := by first | (simp; omega) | simp
            have k3 : decide (ah < bh) = true := by first | (simp; omega) | simp
            have g4 : ((ah : Int) == (bh : Int)) = false := by first | (simp; omega) | simp
            have k4 : (ah == bh) = false := by first | (simp; omega) | simp
            have g6 : decide ((al : Int) < (bl : Int)) = false := by first | (simp; omega) | simp
            have k6 : decide (al < bl) = false := by first | (simp; omega) | simp
            have i1 : (if (bl : Int) < (al : Int) then (1 : Int) else 0) = 0 := if_neg (by omega)
            have i2 : (if (bh : Int) < (ah : Int) then (1 : Int) else 0) = 0 := if_neg (by omega)
            clear hP e2 HT2 HA2 HB2
            go_wp2_with (first | simp only [sub64_0n bl al v2] | simp only [sub64_0n bh ah v1b])
            go_meet
            case rel =>
              have v1 := V1.out; have v3 := V3.out
              obtain ⟨q1, q2⟩ := Q.out
              exact ⟨congrArg Value.bool e1.symm, congrArg (Value.int .u64) (by omega), congrArg (Value.int .u64) (by omega), rfl⟩
      · subst c
        by_cases c2 : al < bl
        · skip
          rw [if_pos (by omega)] at hP
          have e1 : neg = false := congrArg Prod.fst hP
          have e2 : T = (ah * 18446744073709551616 + bl) - (ah * 18446744073709551616 + al) := congrArg Prod.snd hP
          have Q := Lib.hid (And.intro e2 HT2)
          have g3 : decide ((ah : Int) < (ah : Int)) = false := by first | (simp; omega) | simp
          have k3 : decide (ah < ah) = false := by first | (simp; omega) | simp
          have g4 : ((ah : Int) == (ah : Int)) = true := by first | (simp; omega) | simp
          have k4 : (ah == ah) = true := by first | (simp; omega) | simp
          have g6 : decide ((al : Int) < (bl : Int)) = true := by first | (simp; omega) | simp
          have k6 : decide (al < bl) = true := by first | (simp; omega) | simp
          have i1 : (if (bl : Int) < (al : Int) then (1 : Int) else 0) = 0 := if_neg (by omega)
          have i2 : (if (ah : Int) < (ah : Int) then (1 : Int) else 0) = 0 := if_neg (by omega)
          clear hP e2 HT2 HA2 HB2
          go_wp2_with (first | simp only [sub64_0n bl al v2] | simp only [sub64_0n ah ah v1b])
          go_meet
          case rel =>
            have v1 := V1.out; have v3 := V3.out
            obtain ⟨q1, q2⟩ := Q.out
            exact ⟨congrArg Value.bool e1.symm, congrArg (Value.int .u64) (by omega), congrArg (Value.int .u64) (by omega), rfl⟩
        · skip
          rw [if_neg (by omega)] at hP
          have e1 : neg = true := congrArg Prod.fst hP
          have e2 : T = (ah * 18446744073709551616 + al) - (ah * 18446744073709551616 + bl) := congrArg Prod.snd hP
          have Q := Lib.hid (And.intro e2 HT2)
          have g3 : decide ((ah : Int) < (ah : Int)) = false := by first | (simp; omega) | simp
          have k3 : decide (ah < ah) = false := by first | (simp; omega) | simp
          have g4 : ((ah : Int) == (ah : Int)) = true := by first | (simp; omega) | simp
          have k4 : (ah == ah) = true := by first | (simp; omega) | simp
          have g6 : decide ((al : Int) < (bl : Int)) = false := by first | (simp; omega) | simp
          have k6 : decide (al < bl) = false := by first | (simp; omega) | simp
          have i1 : (if (al : Int) < (bl : Int) then (1 : Int) else 0) = 0 := if_neg (by omega)
          have i2 : (if (ah : Int) < (ah : Int) then (1 : Int) else 0) = 0 := if_neg (by omega)
          clear hP e2 HT2 HA2 HB2
          go_wp2_with (first | simp only [sub64_0n al bl v4] | simp only [sub64_0n ah ah v1b])
          go_meet
          case rel =>
            have v1 := V1.out; have v3 := V3.out
            obtain ⟨q1, q2⟩ := Q.out
            exact ⟨congrArg Value.bool e1.symm, congrArg (Value.int .u64) (by omega), congrArg (Value.int .u64) (by omega), rfl⟩
      · by_cases c2 : al < bl
        · skip
          rw [if_neg (by omega)] at hP
          have e1 : neg = true := congrArg Prod.fst hP
          have e2 : T = (ah * 18446744073709551616 + al) - (bh * 18446744073709551616 + bl) := congrArg Prod.snd hP
          have Q := Lib.hid (And.intro e2 HT2)
          have g3 : decide ((ah : Int) < (bh : Int)) = false := by first | (simp; omega) | simp
          have k3 : decide (ah < bh) = false := by first | (simp; omega) | simp
          have g4 : ((ah : Int) == (bh : Int)) = false := by first | (simp; omega) | simp
          have k4 : (ah == bh) = false := by first | (simp; omega) | simp
          have g6 : decide ((al : Int) < (bl : Int)) = true := by first | (simp; omega) | simp
          have k6 : decide (al < bl) = true := by first | (simp; omega) | simp
          have i1 : (if (al : Int) < (bl : Int) then (1 : Int) else 0) = 1 := if_pos (by omega)
          have i2 : (if (ah : Int) < (bh : Int) + 1 then (1 : Int) else 0) = 0 := if_neg (by omega)
          clear hP e2 HT2 HA2 HB2
          go_wp2_with (first | simp only [sub64_0n al bl v4] | simp only [sub64_1n ah bh v3b])
          go_meet
          case rel =>
            have v1 := V1.out; have v3 := V3.out
            obtain ⟨q1, q2⟩ := Q.out
            exact ⟨congrArg Value.bool e1.symm, congrArg (Value.int .u64) (by omega), congrArg (Value.int .u64) (by omega), rfl⟩
        · skip
          rw [if_neg (by omega)] at hP
          have e1 : neg = true := congrArg Prod.fst hP
          have e2 : T = (ah * 18446744073709551616 + al) - (bh * 18446744073709551616 + bl) := congrArg Prod.snd hP
          have Q := Lib.hid (And.intro e2 HT2)
          have g3 : decide ((ah : Int) < (bh : Int)) = false := by first | (simp; omega) | simp
          have k3 : decide (ah < bh) = false := by first | (simp; omega) | simp
          have g4 : ((ah : Int) == (bh : Int)) = false := by first | (simp; omega) | simp
          have k4 : (ah == bh) = false := by first | (simp; omega) | simp
          have g6 : decide ((al : Int) < (bl : Int)) = false := by first | (simp; omega) | simp
          have k6 : decide (al < bl) = false := by first | (simp; omega) | simp
          have i1 : (if (al : Int) < (bl : Int) then (1 : Int) else 0) = 0 := if_neg (by omega)
          have i2 : (if (ah : Int) < (bh : Int) then (1 : Int) else 0) = 0 := if_neg (by omega)
          clear hP e2 HT2 HA2 HB2
          go_wp2_with (first | simp only [sub64_0n al bl v4] | simp only [sub64_0n ah bh v3b])
          go_meet
          case rel =>
            have v1 := V1.out; have v3 := V3.out
            obtain ⟨q1, q2⟩ := Q.out
            exact ⟨congrArg Value.bool e1.symm, congrArg (Value.int .u64) (by omega), congrArg (Value.int .u64) (by omega), rfl⟩
    · rw [if_pos rfl] at hP
      have e1 : neg = true := congrArg Prod.fst hP
      have e2 : T = ah * 18446744073709551616 + al + (bh * 18446744073709551616 + bl) := congrArg Prod.snd hP
      have Q := Lib.hid (And.intro e2 HT2)
      have k0 : (0 : Int) ≤ ((al : Int) + bl) / 18446744073709551616 := by omega
      have k1 : ((al : Int) + bl) / 18446744073709551616 ≤ 1 := by omega
      clear hP e2 HT2 HA2 HB2
      go_wp2_with (first | simp only [add64_0n al bl v2 v4] | simp only [add64n ah bh _ v1b v3b k0 k1])
      go_meet
      case rel =>
        have v1 := V1.out; have v3 := V3.out
        obtain ⟨q1, q2⟩ := Q.out
        exact ⟨congrArg Value.bool e1.symm, congrArg (Value.int .u64) (by omega), congrArg (Value.int .u64) (by omega), rfl⟩
  case rest =>
    obtain ⟨rfl, rfl, rfl, rfl⟩ := hcut
    clear HP HA HB V1 V3 G1 M1 M2
    by_cases hT0 : T = 0
    · have z1 : h = 0 := by have := HTT.out; omega
      have z2 : l = 0 := by have := HTT.out; omega
      subst z1; subst z2
      have HF := Lib.hid (HZ.out hT0)
      clear HT HZ
      have cr0 : wc.cell? ⟨w.heap.size + 1 + 1, 0, none⟩ = some (.int .i64 0) := (h3).cell 0
      have fcr0 := (h3).frozen 0
      have cr1 : wc.cell? ⟨w.heap.size + 1 + 1, 1, none⟩ = some (.int .i64 0) := (h3).cell 1
      have fcr1 := (h3).frozen 1
      have lcr := (h3).lt
      go_wp2_with fail
      exact bodyPost_ret (v := .agg #[.int .i64 0, .int .i64 1]) (by simp [results, Tryd.results25, go_sem, cr0, cr1, lcr]) rfl ⟨(by rw [HF.out]), (hb1.setCell (by first | omega | (simp; done) | (simp; omega)) _).setCell (by first | omega | (simp; done) | (simp; omega)) _⟩
    · clear HZ
      have t0 : (((h : Int) == 0) = false ∨ (((h : Int) == 0) = true ∧ ((l : Int) == 0) = false)) := by
        by_cases hz : h = 0
        · right
          exact ⟨by rw [hz]; rfl, by rw [beq_eq_false_iff_ne]; have := HTT.out; omega⟩
        · left
          rw [beq_eq_false_iff_ne]; omega
      clear hT0
      rcases t0 with t0 | ⟨t0, t00⟩
      all_goals
        have kp : 0 < Nat.gcd (T % g) g := Nat.gcd_pos_of_pos_right _ gp
        have kle : Nat.gcd (T % g) g ≤ g := Nat.gcd_le_right _ gp
        have ml : T % g < g := Nat.mod_lt _ gp
        have hr := fun w => rem64_any h l g w gp (Nat.lt_trans VH.out (by decide)) vl (by omega)
        rw [← HTT.out] at hr
        have hgk := fun w => gcd_any (T % g) g w (by omega) (by omega)
        obtain ⟨M, hM⟩ : ∃ v, v = T % g := ⟨_, rfl⟩
        rw [← hM] at hr hgk ml kp kle HT
        clear hM
        obtain ⟨k, hk⟩ : ∃ v, v = Nat.gcd M g := ⟨_, rfl⟩
        rw [← hk] at hgk kp kle HT
        clear hk
        have HR := Lib.hid hr
        have HG := Lib.hid hgk
        have ov : h < 18446744073709551616 := Nat.lt_trans VH.out (by decide)
        clear hr hgk ml
        rcases Nat.lt_or_ge h k with hhk | hhk
        · have t1 : decide ((k : Int) ≤ (h : Int)) = false := by simp; omega
          have hnum : T / k < 18446744073709551616 := by
            rw [Nat.div_lt_iff_lt_mul kp, HTT.out]; omega
          have hdv := fun w => div64_any h l k w hhk vl (by omega)
          rw [← HTT.out] at hdv
          obtain ⟨N, hN⟩ : ∃ v, v = T / k := ⟨_, rfl⟩
          obtain ⟨O, hO⟩ : ∃ v, v = T % k := ⟨_, rfl⟩
          rw [← hN, ← hO] at hdv
          rw [← hN] at HT hnum
          have HD := Lib.hid hdv
          clear hdv hN hO
          have l3 := Nat.div_le_self q.toNat k
          have e2 : ((q.toNat : Nat) : Int) = q := by omega
          have f7 : q / (k : Int) = ((q.toNat / k : Nat) : Int) := by rw [Int.natCast_ediv, e2]
          have f8 : IntKind.u64.wrap ((q.toNat / k : Nat) : Int) = ((q.toNat / k : Nat) : Int) := wrap_nat _ (by omega)
          have hq2 : q.toNat / k < 18446744073709551616 := by omega
          obtain ⟨Q, hQ⟩ : ∃ v, v = q.toNat / k := ⟨_, rfl⟩
          rw [← hQ] at f7 f8 hq2 HT
          have M3 := fun w => mul64_any under Q hun hq2 w
          clear hQ l3 e2
          obtain ⟨X, hX⟩ : ∃ v, v = under * Q := ⟨_, rfl⟩
          rw [← hX] at M3 HT
          obtain ⟨xh, hxh⟩ : ∃ v, v = X / 18446744073709551616 := ⟨_, rfl⟩
          obtain ⟨xl, hxl⟩ : ∃ v, v = X % 18446744073709551616 := ⟨_, rfl⟩
          rw [← hxh, ← hxl] at M3
          have X1 := Lib.hid (show X = xh * 18446744073709551616 + xl by omega)
          have vx : xl < 18446744073709551616 := by omega
          have HM3 := Lib.hid M3
          clear M3 hX hxh hxl
          go_wp2_with fail
          ((with_reducible refine (HR.out _).mono ?_); rintro e w' ⟨rfl, hbw⟩)
          obtain ⟨m5, rfl⟩ := grow_mk hbw
          clear hbw
          go_wp2_with fail
          ((with_reducible refine (HG.out _).mono ?_); rintro e w' ⟨rfl, rfl⟩)
          go_wp2_with fail
          ((with_reducible refine (HD.out _).mono ?_); rintro e w' ⟨rfl, hbw⟩)
          obtain ⟨m6, rfl⟩ := grow_mk hbw
          clear hbw
          go_wp2_with fail
          ((with_reducible refine (HM3.out _).mono ?_); rintro e w' ⟨rfl, rfl⟩)
          by_cases x0 : 0 < xh
          · have k1 : decide ((0 : Int) < (xh : Int)) = true := by simp; omega
            have HF := Lib.hid (HT.out.trans (madeF_over _ _ _ (Or.inr (by rw [X1.out]; unfold maxI; omega))))
            replace hb1 := below_grow (below_grow hb1 m5) m6
            replace h3 := (h3.grow m5).grow m6
            rw [grow_grow] at hb1 h3
            generalize grow wc (m5.trans m6) = wz at *
            have cr0 : wz.cell? ⟨w.heap.size + 1 + 1, 0, none⟩ = some (.int .i64 0) := (h3).cell 0
            have fcr0 := (h3).frozen 0
            have cr1 : wz.cell? ⟨w.heap.size + 1 + 1, 1, none⟩ = some (.int .i64 0) := (h3).cell 1
            have fcr1 := (h3).frozen 1
            have lcr := (h3).lt
            go_wp2_with fail
            exact bodyPost_ret (v := .agg #[.int .i64 0, .int .i64 0]) (by simp [results, Tryd.results25, go_sem, cr0, cr1, lcr]) rfl ⟨(by rw [HF.out]), (hb1.setCell (by first | omega | (simp; done) | (simp; omega)) _).setCell (by first | omega | (simp; done) | (simp; omega)) _⟩
          · obtain rfl : xh = 0 := by omega
            obtain rfl : X = xl := by have := X1.out; omega
            have mk : ∀ w, _ := fun w => made_any neg N X w hnum vx
            rw [← HT.out] at mk
            obtain ⟨u, v⟩ := R
            have MK := Lib.hid mk
            clear mk
            go_wp2_with fail
            ((with_reducible refine (MK.out _).mono ?_); rintro e w' ⟨rfl, hbw⟩)
            obtain ⟨m7, rfl⟩ := grow_mk hbw
            clear hbw
            replace hb1 := below_grow hb1 ((m5.trans m6).trans m7)
            replace h3 := h3.grow ((m5.trans m6).trans m7)
            rw [grow_grow]
            generalize grow wc ((m5.trans m6).trans m7) = wz at *
            have cr0 : wz.cell? ⟨w.heap.size + 1 + 1, 0, none⟩ = some (.int .i64 0) := (h3).cell 0
            have fcr0 := (h3).frozen 0
            have cr1 : wz.cell? ⟨w.heap.size + 1 + 1, 1, none⟩ = some (.int .i64 0) := (h3).cell 1
            have fcr1 := (h3).frozen 1
            have lcr := (h3).lt
            go_wp2_with fail
            exact bodyPost_ret (v := .agg #[.int .i64 u, .int .i64 v]) (by simp [results, Tryd.results25, go_sem, cr0, cr1, lcr]) rfl ⟨rfl, (hb1.setCell (by first | omega | (simp; done) | (simp; omega)) _).setCell (by first | omega | (simp; done) | (simp; omega)) _⟩
        · have t1 : decide ((k : Int) ≤ (h : Int)) = true := by simp; omega
          have hbig : maxI < T / k := by
            refine Nat.lt_of_lt_of_le (show maxI < 18446744073709551616 by unfold maxI; decide) ((Nat.le_div_iff_mul_le kp).2 ?_)
            rw [HTT.out]; omega
          have HF := Lib.hid (HT.out.trans (madeF_over _ _ _ (Or.inl hbig)))
          clear hbig
          go_wp2_with fail
          ((with_reducible refine (HR.out _).mono ?_); rintro e w' ⟨rfl, hbw⟩)
          obtain ⟨m5, rfl⟩ := grow_mk hbw
          clear hbw
          go_wp2_with fail
          ((with_reducible refine (HG.out _).mono ?_); rintro e w' ⟨rfl, rfl⟩)
          replace hb1 := below_grow hb1 m5
          replace h3 := h3.grow m5
          generalize grow wc m5 = wz at *
          have cr0 : wz.cell? ⟨w.heap.size + 1 + 1, 0, none⟩ = some (.int .i64 0) := (h3).cell 0
          have fcr0 := (h3).frozen 0
          have cr1 : wz.cell? ⟨w.heap.size + 1 + 1, 1, none⟩ = some (.int .i64 0) := (h3).cell 1
          have fcr1 := (h3).frozen 1
          have lcr := (h3).lt
          go_wp2_with fail
          exact bodyPost_ret (v := .agg #[.int .i64 0, .int .i64 0]) (by simp [results, Tryd.results25, go_sem, cr0, cr1, lcr]) rfl ⟨(by rw [HF.out]), (hb1.setCell (by first | omega | (simp; done) | (simp; omega)) _).setCell (by first | omega | (simp; done) | (simp; omega)) _⟩

end Go.Proofs.YtgjhaanpkfheeaaDoor
