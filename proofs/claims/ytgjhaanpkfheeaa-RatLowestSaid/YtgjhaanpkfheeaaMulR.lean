/- The reference's product of two fractions; clean ones; whole numbers. -/
import Derived.Test.YtgjhaanpkfheeaaFoldA
import Derived.Test.YtgjhaanpkfheeaaRatF
namespace Go.Proofs.Ytgjhaanpkfheeaa
set_option linter.unusedVariables false
set_option linter.unusedSimpArgs false
open Go.RowKit

set_option maxHeartbeats 1000000 in
theorem int_any (n : Int) (w : World) : Calls Try.prog 76 #[.int .i64 n] w fun e w' => e = .returned (rv (n, 1)) ∧ Below w.heap.size w w' := by
  go_enter Try.func76, Try.ntmps76
  go_wp2_with fail
  exact bodyPost_ret (v := .agg #[.int .i64 n, .int .i64 1]) (by simp [results, Try.results76, go_sem]) rfl ⟨rfl, (below_box _ _)⟩

set_option maxHeartbeats 1000000 in
theorem clean_any (r : Rt) (w : World) (h64 : Is64 r) :
    Calls Try.prog 77 #[rv r] w fun e w' => e = .returned (rv (cleanR r)) ∧ Below w.heap.size w w' := by
  have hm := fun w => rmay_any r w h64
  unfold cleanR
  cases hmay : mayB r with
  | true =>
    rw [hmay] at hm
    obtain ⟨n, d⟩ := r
    have HM := Lib.hid hm
    clear hm hmay h64
    go_enter Try.func77, Try.ntmps77
    go_wp2_with fail
    ((with_reducible refine (HM.out _).mono ?_); rintro e w' ⟨rfl, hbw⟩)
    obtain ⟨m, rfl⟩ := grow_mk hbw
    clear hbw
    go_wp2_with fail
    exact bodyPost_ret (v := .agg #[.int .i64 n, .int .i64 d]) (by simp [results, Try.results77, go_sem]) rfl ⟨rfl, (((below_grow ((below_box _ _).alloc (by simp) _) m).setCell (by first | omega | (simp; done) | (simp; omega)) _).setCell (by first | omega | (simp; done) | (simp; omega)) _)⟩
  | false =>
    rw [hmay] at hm
    obtain ⟨n, d⟩ := r
    have HM := Lib.hid hm
    have HO := Lib.hid (fun w => over_any w)
    clear hm hmay h64
    go_enter Try.func77, Try.ntmps77
    go_wp2_with fail
    ((with_reducible refine (HM.out _).mono ?_); rintro e w' ⟨rfl, hbw⟩)
    obtain ⟨m, rfl⟩ := grow_mk hbw
    clear hbw
    go_wp2_with fail
    ((with_reducible refine (HO.out _).mono ?_); rintro e w' ⟨rfl, hbw⟩)
    obtain ⟨m2, rfl⟩ := grow_mk hbw
    clear hbw
    go_wp2_with fail
    exact bodyPost_ret (v := .agg #[.int .i64 0, .int .i64 0]) (by simp [results, Try.results77, go_sem]) rfl ⟨rfl, (((below_grow (below_grow ((below_box _ _).alloc (by simp) _) m) m2).setCell (by first | omega | (simp; done) | (simp; omega)) _).setCell (by first | omega | (simp; done) | (simp; omega)) _)⟩

theorem wmade_whole (neg : Bool) (X Y : Nat) (hX : X < 340282366920938463463374607431768211456) (hY : Y ≤ 170141183460469231731687303715884105728) (w : World) :
    Calls Try.prog 67 #[.bool neg, wv (X / 18446744073709551616) (X % 18446744073709551616), wv (Y / 18446744073709551616) (Y % 18446744073709551616)] w fun e w' => e = .returned (rv (fracOf neg X Y)) ∧ Below w.heap.size w w' := by
  have eX : wn (X / 18446744073709551616) (X % 18446744073709551616) = X := by unfold wn; omega
  have eY : wn (Y / 18446744073709551616) (Y % 18446744073709551616) = Y := by unfold wn; omega
  have := wmade_any neg (X / 18446744073709551616) (X % 18446744073709551616) (Y / 18446744073709551616) (Y % 18446744073709551616) (by omega) (by omega) (by omega) (by omega) (by rw [eY]; exact hY) w
  rw [eX, eY] at this
  exact this

set_option maxHeartbeats 2000000 in
theorem mul2_any (a b : Rt) (w : World) (ha : Is64 a) (hb : Is64 b) :
    Calls Try.prog 78 #[rv a, rv b] w fun e w' => e = .returned (rv (op2 mulF a b)) ∧ Below w.heap.size w w' := by
  have hs := fun w => is_any a w ha
  have ht := fun w => is_any b w hb
  have HO := Lib.hid (fun w => over_any w)
  unfold op2
  cases c1 : sureB a with
  | false =>
    rw [c1] at hs
    obtain ⟨n, d⟩ := a; obtain ⟨p, q⟩ := b
    have HS := Lib.hid hs
    clear hs ht c1
    go_enter Try.func78, Try.ntmps78
    go_wp2_with fail
    ((with_reducible refine (HS.out _).mono ?_); rintro e w' ⟨rfl, hbw⟩)
    obtain ⟨m, rfl⟩ := grow_mk hbw
    clear hbw
    go_wp2_with fail
    ((with_reducible refine (HO.out _).mono ?_); rintro e w' ⟨rfl, hbw⟩)
    obtain ⟨m2, rfl⟩ := grow_mk hbw
    clear hbw
    go_wp2_with fail
    exact bodyPost_ret (v := .agg #[.int .i64 0, .int .i64 0]) (by simp [results, Try.results78, go_sem]) rfl ⟨rfl, ((below_grow (below_grow (((below_box _ _).alloc (by simp) _).alloc (by simp; omega) _) m) m2).setCell (by first | omega | (simp; done) | (simp; omega)) _).setCell (by first | omega | (simp; done) | (simp; omega)) _⟩
  | true =>
    rw [c1] at hs
    have d1 := sureB_den c1
    cases c2 : sureB b with
    | false =>
      rw [c2] at ht
      obtain ⟨n, d⟩ := a; obtain ⟨p, q⟩ := b
      have HS := Lib.hid hs
      have HT := Lib.hid ht
      clear hs ht c1 c2
      go_enter Try.func78, Try.ntmps78
      go_wp2_with fail
      ((with_reducible refine (HS.out _).mono ?_); rintro e w' ⟨rfl, hbw⟩)
      obtain ⟨m, rfl⟩ := grow_mk hbw
      clear hbw
      go_wp2_with fail
      ((with_reducible refine (HT.out _).mono ?_); rintro e w' ⟨rfl, hbw⟩)
      obtain ⟨m2, rfl⟩ := grow_mk hbw
      clear hbw
      go_wp2_with fail
      ((with_reducible refine (HO.out _).mono ?_); rintro e w' ⟨rfl, hbw⟩)
      obtain ⟨m3, rfl⟩ := grow_mk hbw
      clear hbw
      go_wp2_with fail
      exact bodyPost_ret (v := .agg #[.int .i64 0, .int .i64 0]) (by simp [results, Try.results78, go_sem]) rfl ⟨rfl, ((below_grow (below_grow (((below_box _ _).alloc (by simp) _).alloc (by simp; omega) _) _) m3).setCell (by first | omega | (simp; done) | (simp; omega)) _).setCell (by first | omega | (simp; done) | (simp; omega)) _⟩
    | true =>
      rw [c2] at ht
      have d2 := sureB_den c2
      obtain ⟨n, d⟩ := a; obtain ⟨p, q⟩ := b
      obtain ⟨b1, b2, b3, b4⟩ := ha
      obtain ⟨b5, b6, b7, b8⟩ := hb
      simp only at b1 b2 b3 b4 b5 b6 b7 b8 d1 d2
      have HS := Lib.hid hs
      have HT := Lib.hid ht
      have e1 : ((d.toNat : Nat) : Int) = d := by omega
      have e2 : ((q.toNat : Nat) : Int) = q := by omega
      have e3 : IntKind.u64.wrap d = d := by rw [IntKind.wrap_u64]; omega
      have e4 : IntKind.u64.wrap q = q := by rw [IntKind.wrap_u64]; omega
      have M1 := Lib.hid (fun w => wmul_any n.natAbs p.natAbs (by omega) (by omega) w)
      have M2 := Lib.hid (fun w => e1 ▸ e2 ▸ wmul_any d.toNat q.toNat (by omega) (by omega) w)
      have hX : n.natAbs * p.natAbs < 340282366920938463463374607431768211456 := Nat.lt_of_le_of_lt (Nat.mul_le_mul (show n.natAbs ≤ 9223372036854775808 by omega) (show p.natAbs ≤ 9223372036854775808 by omega)) (by decide)
      have hY : d.toNat * q.toNat < 85070591730234615865843651857942052864 := Nat.lt_of_le_of_lt (Nat.mul_le_mul (show d.toNat ≤ 9223372036854775807 by omega) (show q.toNat ≤ 9223372036854775807 by omega)) (by decide)
      have HF := Lib.hid (show mulF (n, d) (p, q) = fracOf (neg2 n p) (n.natAbs * p.natAbs) (d.toNat * q.toNat) from rfl)
      generalize mulF (n, d) (p, q) = R at *
      clear e1 e2 hs ht c1 c2 d1 d2
      generalize n.natAbs * p.natAbs = X at *
      generalize d.toNat * q.toNat = Y at *
      have hm := fun w => wmade_whole (neg2 n p) X Y hX (by omega) w
      rw [← HF.out] at hm
      obtain ⟨u, v⟩ := R
      rw [show neg2 n p = (!(decide (n < 0) == decide (p < 0))) from rfl] at hm
      generalize X / 18446744073709551616 = xh at *
      generalize X % 18446744073709551616 = xl at *
      generalize Y / 18446744073709551616 = yh at *
      generalize Y % 18446744073709551616 = yl at *
      unfold wv at M1 M2 hm
      have HM := Lib.hid hm
      clear hm HF hX hY
      go_enter Try.func78, Try.ntmps78
      go_wp2_with fail
      ((with_reducible refine (HS.out _).mono ?_); rintro e w' ⟨rfl, hbw⟩)
      obtain ⟨m, rfl⟩ := grow_mk hbw
      clear hbw
      go_wp2_with fail
      ((with_reducible refine (HT.out _).mono ?_); rintro e w' ⟨rfl, hbw⟩)
      obtain ⟨m2, rfl⟩ := grow_mk hbw
      clear hbw
      go_wp2_with fail
      refine wp_region_last 22 _ (by kernel_rfl) rfl (by kernel_rfl) (by kernel_rfl) ?_
      simp only [headOf, hush, List.take_succ_cons, List.take_zero, List.cons_append, List.nil_append, List.drop_succ_cons, List.drop_zero]
      repeat (go_big_quiet_step ((first | (go_at_call 63; with_reducible exact calls_grow_same2 (mag_any n _ b1 b2)) | (go_at_call 63; with_reducible exact calls_grow_same2 (mag_any p _ b5 b6)) | (go_at_call 70; with_reducible exact calls_grow2 (M1.out _)) | (go_at_call 70; with_reducible exact calls_grow2 (M2.out _)) | (go_at_call 67; with_reducible exact calls_grow2 (HM.out _)))))
      refine wpQuiet_nil ?_
      rintro _ ⟨m3, rfl⟩
      go_wp2_with fail
      exact bodyPost_ret (v := .agg #[.int .i64 u, .int .i64 v]) (by simp [results, Try.results78, go_sem]) rfl ⟨rfl, ((below_grow (below_grow (((below_box _ _).alloc (by simp) _).alloc (by simp; omega) _) _) m3).setCell (by first | omega | (simp; done) | (simp; omega)) _).setCell (by first | omega | (simp; done) | (simp; omega)) _⟩

end Go.Proofs.Ytgjhaanpkfheeaa
