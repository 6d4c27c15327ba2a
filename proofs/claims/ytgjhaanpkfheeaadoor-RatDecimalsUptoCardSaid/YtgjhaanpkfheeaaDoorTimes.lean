/- The product of two fractions, in the program. -/
import Derived.Test.YtgjhaanpkfheeaaDoorFold
import Derived.Test.YtgjhaanpkfheeaaDoorWideB
namespace Go.Proofs.YtgjhaanpkfheeaaDoor
set_option linter.unusedVariables false
set_option linter.unusedSimpArgs false
open Go.RowKit

theorem mulF_zero {a b : Rt} (h : a.1 = 0 ∨ b.1 = 0) (ha : 1 ≤ a.2) (hb : 1 ≤ b.2) : mulF a b = (0, 1) := by
  unfold mulF
  have : a.1.natAbs * b.1.natAbs = 0 := by rcases h with h | h <;> simp [h]
  rw [this]
  exact fracOf_zero _ _ (Nat.mul_pos (by omega) (by omega))

set_option maxHeartbeats 2000000 in
theorem times_any (a b : Rt) (w : World) (ha : Is64 a) (hb : Is64 b) (sa : sureB a = true) (sb : sureB b = true) :
    Calls Tryd.prog 26 #[rv a, rv b] w fun e w' => e = .returned (rv (mulF a b)) ∧ Below w.heap.size w w' := by
  have d1 := sureB_den sa
  have d2 := sureB_den sb
  have n1 := sureB_num sa
  have n2 := sureB_num sb
  have HZ := Lib.hid (fun h => mulF_zero (a := a) (b := b) h d1 d2)
  have s1 := (sureB_iff.1 sa).2.2
  have s2 := (sureB_iff.1 sb).2.2
  have HT := Lib.hid (times_fin (neg2 a.1 b.1) a.1.natAbs b.1.natAbs a.2.toNat b.2.toNat (by omega) (by omega) s1 s2)
  change Hid (mulF a b = _) at HT
  clear s1 s2 sa sb
  obtain ⟨n, d⟩ := a; obtain ⟨p, q⟩ := b
  obtain ⟨b1, b2, b3, b4⟩ := ha
  obtain ⟨b5, b6, b7, b8⟩ := hb
  simp only at b1 b2 b3 b4 b5 b6 b7 b8 d1 n1 d2 n2 HT
  by_cases c1 : n = 0
  · subst c1
    have HF := Lib.hid (HZ.out (Or.inl rfl))
    clear HZ HT
    go_enter Tryd.func26, Tryd.ntmps26
    go_wp2_with fail
    exact bodyPost_ret (v := .agg #[.int .i64 0, .int .i64 1]) (by simp [results, Tryd.results26, go_sem]) rfl ⟨(by rw [HF.out]), (((below_box _ _).alloc (by simp) _).alloc (by simp; omega) _)⟩
  have g1 : (n == 0) = false := by simpa using c1
  by_cases c2 : p = 0
  · subst c2
    have HF := Lib.hid (HZ.out (Or.inr rfl))
    clear HZ HT
    go_enter Tryd.func26, Tryd.ntmps26
    go_wp2_with fail
    exact bodyPost_ret (v := .agg #[.int .i64 0, .int .i64 1]) (by simp [results, Tryd.results26, go_sem]) rfl ⟨(by rw [HF.out]), (((below_box _ _).alloc (by simp) _).alloc (by simp; omega) _)⟩
  have g2 : (p == 0) = false := by simpa using c2
  clear HZ
  have hx1 : d.toNat < 18446744073709551616 := by omega
  have hx2 : q.toNat < 18446744073709551616 := by omega
  have hy1 : n.natAbs < 18446744073709551616 := by omega
  have hy2 : p.natAbs < 18446744073709551616 := by omega
  have e1 : ((d.toNat : Nat) : Int) = d := by omega
  have e2 : ((q.toNat : Nat) : Int) = q := by omega
  have e3 : IntKind.u64.wrap d = d := by rw [IntKind.wrap_u64]; omega
  have e4 : IntKind.u64.wrap q = q := by rw [IntKind.wrap_u64]; omega
  have G1 := Lib.hid (fun w => e2 ▸ gcd_any n.natAbs q.toNat w hy1 hx2)
  have G2 := Lib.hid (fun w => e1 ▸ gcd_any p.natAbs d.toNat w hy2 hx1)
  have gp : 0 < Nat.gcd n.natAbs q.toNat := Nat.gcd_pos_of_pos_right _ (by omega)
  have kp : 0 < Nat.gcd p.natAbs d.toNat := Nat.gcd_pos_of_pos_right _ (by omega)
  generalize Nat.gcd n.natAbs q.toNat = g at *
  generalize Nat.gcd p.natAbs d.toNat = k at *
  have l1 := Nat.div_le_self n.natAbs g
  have l2 := Nat.div_le_self p.natAbs k
  have l3 := Nat.div_le_self d.toNat k
  have l4 := Nat.div_le_self q.toNat g
  have f1 : IntKind.u64.wrap ((n.natAbs : Int) / (g : Int)) = ((n.natAbs / g : Nat) : Int) := by rw [← Int.natCast_ediv]; exact wrap_nat _ (by omega)
  have f2 : IntKind.u64.wrap ((p.natAbs : Int) / (k : Int)) = ((p.natAbs / k : Nat) : Int) := by rw [← Int.natCast_ediv]; exact wrap_nat _ (by omega)
  have f3 : d / (k : Int) = ((d.toNat / k : Nat) : Int) := by rw [Int.natCast_ediv, e1]
  have f4 : q / (g : Int) = ((q.toNat / g : Nat) : Int) := by rw [Int.natCast_ediv, e2]
  have f5 : IntKind.u64.wrap ((d.toNat / k : Nat) : Int) = ((d.toNat / k : Nat) : Int) := wrap_nat _ (by omega)
  have f6 : IntKind.u64.wrap ((q.toNat / g : Nat) : Int) = ((q.toNat / g : Nat) : Int) := wrap_nat _ (by omega)
  have M1 := Lib.hid (fun w => mul64_any (n.natAbs / g) (p.natAbs / k) (by omega) (by omega) w)
  have M2 := Lib.hid (fun w => mul64_any (d.toNat / k) (q.toNat / g) (by omega) (by omega) w)
  clear e1 e2 l1 l2 l3 l4
  generalize n.natAbs / g = A at *
  generalize p.natAbs / k = B at *
  generalize d.toNat / k = D at *
  generalize q.toNat / g = Q at *
  generalize A * B = X at *
  generalize D * Q = Y at *
  obtain ⟨xh, hxh⟩ : ∃ v, v = X / 18446744073709551616 := ⟨_, rfl⟩
  obtain ⟨xl, hxl⟩ : ∃ v, v = X % 18446744073709551616 := ⟨_, rfl⟩
  obtain ⟨yh, hyh⟩ : ∃ v, v = Y / 18446744073709551616 := ⟨_, rfl⟩
  obtain ⟨yl, hyl⟩ : ∃ v, v = Y % 18446744073709551616 := ⟨_, rfl⟩
  rw [← hxh, ← hxl] at M1
  rw [← hyh, ← hyl] at M2
  have v1 : xl < 18446744073709551616 := by omega
  have v2 : yl < 18446744073709551616 := by omega
  have X1 := Lib.hid (show X = xh * 18446744073709551616 + xl by omega)
  have Y1 := Lib.hid (show Y = yh * 18446744073709551616 + yl by omega)
  clear hxh hxl hyh hyl c1 c2
  go_enter Tryd.func26, Tryd.ntmps26
  go_wp2_with fail
  refine wp_region_grow (by kernel_rfl) (by kernel_rfl) ?_
  repeat (go_big_quiet_step ((first | (go_at_call 29; with_reducible exact calls_grow_same (size_any n _ b1 b2)) | (go_at_call 29; with_reducible exact calls_grow_same (size_any p _ b5 b6)) | (go_at_call 47; with_reducible exact calls_grow_same (G1.out _)) | (go_at_call 47; with_reducible exact calls_grow_same (G2.out _)))))
  refine wpQuiet_nil ?_
  rintro _ ⟨m3, rfl⟩
  go_wp2_with fail
  refine wp_region_grow (by kernel_rfl) (by kernel_rfl) ?_
  repeat (go_big_quiet_step ((first | (go_at_call 29; with_reducible exact calls_grow_same2 (size_any n _ b1 b2)) | (go_at_call 29; with_reducible exact calls_grow_same2 (size_any p _ b5 b6)) | (go_at_call 48; with_reducible exact calls_grow_same2 (M1.out _)))))
  refine wpQuiet_nil ?_
  rintro _ ⟨m4, rfl⟩
  rw [grow_grow]
  go_wp2_with fail
  refine wp_region_grow (by kernel_rfl) (by kernel_rfl) ?_
  repeat (go_big_quiet_step ((first | (go_at_call 48; first | with_reducible exact calls_grow_same2 (M2.out _) | with_reducible exact calls_grow_same (M2.out _)))))
  refine wpQuiet_nil ?_
  rintro _ ⟨m5, rfl⟩
  rw [grow_grow]
  clear G1 G2 M1 M2 f1 f2 f3 f4 f5 f6
  by_cases x0 : 0 < xh
  · have k1 : decide ((0 : Int) < (xh : Int)) = true := by simp; omega
    have HF := Lib.hid (HT.out.trans (madeF_over _ _ _ (Or.inl (by rw [X1.out]; unfold maxI; omega))))
    go_wp2_with fail
    exact bodyPost_ret (v := .agg #[.int .i64 0, .int .i64 0]) (by simp [results, Tryd.results26, go_sem]) rfl ⟨(by rw [HF.out]), ((below_grow (((below_box _ _).alloc (by simp) _).alloc (by simp; omega) _) _).setCell (by first | omega | (simp; done) | (simp; omega)) _).setCell (by first | omega | (simp; done) | (simp; omega)) _⟩
  obtain rfl : xh = 0 := by omega
  by_cases y0 : 0 < yh
  · have k2 : decide ((0 : Int) < (yh : Int)) = true := by simp; omega
    have HF := Lib.hid (HT.out.trans (madeF_over _ _ _ (Or.inr (by rw [Y1.out]; unfold maxI; omega))))
    go_wp2_with fail
    exact bodyPost_ret (v := .agg #[.int .i64 0, .int .i64 0]) (by simp [results, Tryd.results26, go_sem]) rfl ⟨(by rw [HF.out]), ((below_grow (((below_box _ _).alloc (by simp) _).alloc (by simp; omega) _) _).setCell (by first | omega | (simp; done) | (simp; omega)) _).setCell (by first | omega | (simp; done) | (simp; omega)) _⟩
  obtain rfl : yh = 0 := by omega
  obtain rfl : X = xl := by have := X1.out; omega
  obtain rfl : Y = yl := by have := Y1.out; omega
  have mk : ∀ w, _ := fun w => made_any (neg2 n p) X Y w v1 v2
  obtain ⟨⟨u, v⟩, hr⟩ : ∃ r, madeF (neg2 n p) X Y = r := ⟨_, rfl⟩
  rw [hr] at mk HT
  rw [show neg2 n p = (!(decide (n < 0) == decide (p < 0))) from rfl] at mk
  have MK := Lib.hid mk
  clear hr mk
  go_wp2_with fail
  ((with_reducible refine (MK.out _).mono ?_); rintro e w' ⟨rfl, hbw⟩)
  obtain ⟨m6, rfl⟩ := grow_mk hbw
  clear hbw
  go_wp2_with fail
  exact bodyPost_ret (v := .agg #[.int .i64 u, .int .i64 v]) (by simp [results, Tryd.results26, go_sem]) rfl ⟨(by rw [HT.out]), ((below_grow (((below_box _ _).alloc (by simp) _).alloc (by simp; omega) _) _).setCell (by first | omega | (simp; done) | (simp; omega)) _).setCell (by first | omega | (simp; done) | (simp; omega)) _⟩

end Go.Proofs.YtgjhaanpkfheeaaDoor
