/- The quotient of two fractions, in the reference. -/
import Derived.Test.YtgjhaanpkfheeaaDivP
namespace Go.Proofs.Ytgjhaanpkfheeaa
set_option linter.unusedVariables false
set_option linter.unusedSimpArgs false
open Go.RowKit

set_option maxHeartbeats 2000000 in
theorem rdiv_any (a b : Rt) (w : World) (ha : Is64 a) (hb : Is64 b) :
    Calls Try.prog 35 #[rv a, rv b] w fun e w' => e = .returned (rv (divF a b)) ∧ Below w.heap.size w w' := by
  have hs := fun w => is_any a w ha
  have ht := fun w => is_any b w hb
  have HO := Lib.hid (fun w => over_any w)
  cases c1 : sureB a with
  | false =>
    rw [c1] at hs
    have HF := Lib.hid (show divF a b = (0, 0) by unfold divF; rw [c1]; rfl)
    obtain ⟨n, d⟩ := a; obtain ⟨p, q⟩ := b
    have HS := Lib.hid hs
    clear hs ht c1
    go_enter Try.func35, Try.ntmps35
    go_wp2_with fail
    ((with_reducible refine (HS.out _).mono ?_); rintro e w' ⟨rfl, hbw⟩)
    obtain ⟨m, rfl⟩ := grow_mk hbw
    clear hbw
    go_wp2_with fail
    ((with_reducible refine (HO.out _).mono ?_); rintro e w' ⟨rfl, hbw⟩)
    obtain ⟨m2, rfl⟩ := grow_mk hbw
    clear hbw
    go_wp2_with fail
    exact bodyPost_ret (v := .agg #[.int .i64 0, .int .i64 0]) (by simp [results, Try.results35, go_sem]) rfl ⟨(by rw [HF.out]), ((below_grow (below_grow (((below_box _ _).alloc (by simp) _).alloc (by simp; omega) _) m) m2).setCell (by first | omega | (simp; done) | (simp; omega)) _).setCell (by first | omega | (simp; done) | (simp; omega)) _⟩
  | true =>
    rw [c1] at hs
    have d1 := sureB_den c1
    cases c2 : sureB b with
    | false =>
      rw [c2] at ht
      have HF := Lib.hid (show divF a b = (0, 0) by unfold divF; rw [c2, Bool.and_false, Bool.false_and]; rfl)
      obtain ⟨n, d⟩ := a; obtain ⟨p, q⟩ := b
      have HS := Lib.hid hs
      have HT := Lib.hid ht
      clear hs ht c1 c2
      go_enter Try.func35, Try.ntmps35
      go_wp2_with fail
      ((with_reducible refine (HS.out _).mono ?_); rintro e w' ⟨rfl, hbw⟩)
      obtain ⟨m, rfl⟩ := grow_mk hbw
      clear hbw
      go_wp2_with fail
      ((with_reducible refine (HT.out _).mono ?_); rintro e w' ⟨rfl, hbw⟩)
      obtain ⟨m2, rfl⟩ := grow_mk hbw
      clear hbw
      go_wp2_with fail
      ((with_reducible refine (HO.out _).mono ?_); rintro e w' ⟨rfl, hbw⟩)
      obtain ⟨m3, rfl⟩ := grow_mk hbw
      clear hbw
      go_wp2_with fail
      exact bodyPost_ret (v := .agg #[.int .i64 0, .int .i64 0]) (by simp [results, Try.results35, go_sem]) rfl ⟨(by rw [HF.out]), ((below_grow (below_grow (((below_box _ _).alloc (by simp) _).alloc (by simp; omega) _) _) m3).setCell (by first | omega | (simp; done) | (simp; omega)) _).setCell (by first | omega | (simp; done) | (simp; omega)) _⟩
    | true =>
      rw [c2] at ht
      have d2 := sureB_den c2
      have n1 := sureB_num c1
      have n2 := sureB_num c2
      have HF := Lib.hid (show b.1 ≠ 0 → divF a b = fracOf (neg2 a.1 b.1) (a.1.natAbs * b.2.toNat) (a.2.toNat * b.1.natAbs) from fun h0 => by unfold divF; rw [c1, c2, show (b.1 != 0) = true by simpa using h0]; rfl)
      have HZ := Lib.hid (show b.1 = 0 → divF a b = (0, 0) from fun h0 => by unfold divF; rw [h0]; simp)
      obtain ⟨n, d⟩ := a; obtain ⟨p, q⟩ := b
      obtain ⟨b1, b2, b3, b4⟩ := ha
      obtain ⟨b5, b6, b7, b8⟩ := hb
      simp only at b1 b2 b3 b4 b5 b6 b7 b8 d1 d2 n1 n2 HF HZ
      have HS := Lib.hid hs
      have HT := Lib.hid ht
      by_cases h0 : p = 0
      · subst h0
        have HZ2 := Lib.hid (HZ.out rfl)
        clear HF hs ht c1 c2 HZ
        go_enter Try.func35, Try.ntmps35
        go_wp2_with fail
        ((with_reducible refine (HS.out _).mono ?_); rintro e w' ⟨rfl, hbw⟩)
        obtain ⟨m, rfl⟩ := grow_mk hbw
        clear hbw
        go_wp2_with fail
        ((with_reducible refine (HT.out _).mono ?_); rintro e w' ⟨rfl, hbw⟩)
        obtain ⟨m2, rfl⟩ := grow_mk hbw
        clear hbw
        go_wp2_with fail
        ((with_reducible refine (HO.out _).mono ?_); rintro e w' ⟨rfl, hbw⟩)
        obtain ⟨m3, rfl⟩ := grow_mk hbw
        clear hbw
        go_wp2_with fail
        exact bodyPost_ret (v := .agg #[.int .i64 0, .int .i64 0]) (by simp [results, Try.results35, go_sem]) rfl ⟨(by rw [HZ2.out]), ((below_grow (below_grow (((below_box _ _).alloc (by simp) _).alloc (by simp; omega) _) _) m3).setCell (by first | omega | (simp; done) | (simp; omega)) _).setCell (by first | omega | (simp; done) | (simp; omega)) _⟩
      have g0 : (p == 0) = false := by simpa using h0
      have HF := Lib.hid (HF.out h0)
      clear h0 HZ
      have e1 : ((d.toNat : Nat) : Int) = d := by omega
      have e2 : ((q.toNat : Nat) : Int) = q := by omega
      have e3 : IntKind.u64.wrap d = d := by rw [IntKind.wrap_u64]; omega
      have e4 : IntKind.u64.wrap q = q := by rw [IntKind.wrap_u64]; omega
      have M1 := Lib.hid (fun w => (e2 ▸ wmul_any n.natAbs q.toNat (by omega) (by omega) w))
      have M2 := Lib.hid (fun w => (e1 ▸ wmul_any d.toNat p.natAbs (by omega) (by omega) w))
      have hX : n.natAbs * q.toNat < 340282366920938463463374607431768211456 := Nat.lt_of_le_of_lt (Nat.mul_le_mul (show n.natAbs ≤ 9223372036854775808 by omega) (show q.toNat ≤ 9223372036854775808 by omega)) (by decide)
      have hY : d.toNat * p.natAbs < 85070591730234615865843651857942052864 := Nat.lt_of_le_of_lt (Nat.mul_le_mul (show d.toNat ≤ 9223372036854775807 by omega) (show p.natAbs ≤ 9223372036854775807 by omega)) (by decide)
      generalize divF (n, d) (p, q) = R at *
      clear e1 e2 hs ht c1 c2 d1 d2
      generalize n.natAbs * q.toNat = X at *
      generalize d.toNat * p.natAbs = Y at *
      have hm := fun w => wmade_whole (neg2 n p) X Y hX (by omega) w
      rw [← HF.out] at hm
      obtain ⟨u, v⟩ := R
      rw [show neg2 n p = (!(decide (n < 0) == decide (p < 0))) from rfl] at hm
      generalize X / 18446744073709551616 = xh at *
      generalize X % 18446744073709551616 = xl at *
      generalize Y / 18446744073709551616 = yh at *
      generalize Y % 18446744073709551616 = yl at *
      unfold wv at M1 M2 hm
      have HM := Lib.hid hm
      clear hm HF hX hY
      go_enter Try.func35, Try.ntmps35
      go_wp2_with fail
      ((with_reducible refine (HS.out _).mono ?_); rintro e w' ⟨rfl, hbw⟩)
      obtain ⟨m, rfl⟩ := grow_mk hbw
      clear hbw
      go_wp2_with fail
      ((with_reducible refine (HT.out _).mono ?_); rintro e w' ⟨rfl, hbw⟩)
      obtain ⟨m2, rfl⟩ := grow_mk hbw
      clear hbw
      go_wp2_with fail
      refine wp_region_last 22 _ (by kernel_rfl) rfl (by kernel_rfl) (by kernel_rfl) ?_
      simp only [headOf, hush, List.take_succ_cons, List.take_zero, List.cons_append, List.nil_append, List.drop_succ_cons, List.drop_zero]
      repeat (go_big_quiet_step ((first | (go_at_call 63; with_reducible exact calls_grow_same2 (mag_any n _ b1 b2)) | (go_at_call 63; with_reducible exact calls_grow_same2 (mag_any p _ b5 b6)) | (go_at_call 70; with_reducible exact calls_grow2 (M1.out _)) | (go_at_call 70; with_reducible exact calls_grow2 (M2.out _)) | (go_at_call 67; with_reducible exact calls_grow2 (HM.out _)))))
      refine wpQuiet_nil ?_
      rintro _ ⟨m3, rfl⟩
      go_wp2_with fail
      exact bodyPost_ret (v := .agg #[.int .i64 u, .int .i64 v]) (by simp [results, Try.results35, go_sem]) rfl ⟨rfl, ((below_grow (below_grow (((below_box _ _).alloc (by simp) _).alloc (by simp; omega) _) _) m3).setCell (by first | omega | (simp; done) | (simp; omega)) _).setCell (by first | omega | (simp; done) | (simp; omega)) _⟩

end Go.Proofs.Ytgjhaanpkfheeaa
