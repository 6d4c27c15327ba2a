/- What is made of a sign and two sizes; which fractions may be. -/
import Derived.Test.YtgjhaanpkfheeaaDoorRatA
namespace Go.Proofs.YtgjhaanpkfheeaaDoor
set_option linter.unusedVariables false
set_option linter.unusedSimpArgs false
open Go.RowKit



set_option maxHeartbeats 400000 in
theorem made_any (below : Bool) (n d : Nat) (w : World) (h1 : n < 18446744073709551616) (h2 : d < 18446744073709551616) :
    Calls Tryd.prog 53 #[.bool below, .int .u64 n, .int .u64 d] w fun e w' => e = .returned (rv (madeF below n d)) ∧ Below w.heap.size w w' := by
  unfold madeF maxI rv
  by_cases c1 : 9223372036854775807 < n
  · rw [if_pos (by omega)]
    go_enter Tryd.func53, Tryd.ntmps53
    go_wp2
    exact bodyPost_ret (v := .agg #[.int .i64 0, .int .i64 0]) (by simp [results, Tryd.results53, go_sem]) rfl ⟨rfl, (Below.refl _ _).alloc (Nat.le_refl _) _⟩
  have g1 : decide ((9223372036854775807 : Int) < (n : Int)) = false := by simp; omega
  by_cases c2 : 9223372036854775807 < d
  · rw [if_pos (by omega)]
    go_enter Tryd.func53, Tryd.ntmps53
    go_wp2
    exact bodyPost_ret (v := .agg #[.int .i64 0, .int .i64 0]) (by simp [results, Tryd.results53, go_sem]) rfl ⟨rfl, (Below.refl _ _).alloc (Nat.le_refl _) _⟩
  have g2 : decide ((9223372036854775807 : Int) < (d : Int)) = false := by simp; omega
  by_cases c3 : d = 0
  · subst c3
    rw [if_pos (by omega)]
    go_enter Tryd.func53, Tryd.ntmps53
    go_wp2
    exact bodyPost_ret (v := .agg #[.int .i64 0, .int .i64 0]) (by simp [results, Tryd.results53, go_sem]) rfl ⟨rfl, (Below.refl _ _).alloc (Nat.le_refl _) _⟩
  have c4 : 0 < d := by omega
  have g3 : ((d : Int) == 0) = false := by simp; omega
  rw [if_neg (by omega)]
  cases below
  · go_enter Tryd.func53, Tryd.ntmps53
    go_wp2
    exact bodyPost_ret (v := .agg #[.int .i64 n, .int .i64 d]) (by simp [results, Tryd.results53, go_sem]) rfl ⟨rfl, (Below.refl _ _).alloc (Nat.le_refl _) _⟩
  · go_enter Tryd.func53, Tryd.ntmps53
    go_wp2
    exact bodyPost_ret (v := .agg #[.int .i64 (-(n : Int)), .int .i64 d]) (by simp [results, Tryd.results53, go_sem]) rfl ⟨rfl, (Below.refl _ _).alloc (Nat.le_refl _) _⟩

/-- whether it may be and is not over -/
def sureB (r : Rt) : Bool := decide (1 ≤ r.2) && (r.1 != -9223372036854775808) && (Nat.gcd r.1.natAbs r.2.toNat == 1)

set_option maxHeartbeats 1000000 in
theorem sure_any (r : Rt) (w : World) (h64 : Is64 r) :
    Calls Tryd.prog 27 #[rv r] w fun e w' => e = .returned (.bool (sureB r)) ∧ Below w.heap.size w w' := by
  obtain ⟨n, d⟩ := r
  obtain ⟨b1, b2, b3, b4⟩ := h64
  unfold sureB rv
  simp only at *
  by_cases c1 : 1 ≤ d
  · by_cases c2 : n = -9223372036854775808
    · subst c2
      have g1 : decide ((1:Int) ≤ d) = true := by simpa using c1
      go_enter Tryd.func27, Tryd.ntmps27
      go_wp2
      refine wp_region_grow (by kernel_rfl) (by kernel_rfl) ?_
      repeat (go_big_quiet_step (fail))
      refine wpQuiet_nil ?_
      rintro _ ⟨m, rfl⟩
      go_wp2
      go_ret
      exact ⟨by simp, below_grow (below_box _ _) m⟩
    · have g1 : decide ((1:Int) ≤ d) = true := by simpa using c1
      have g2 : (n != -9223372036854775808) = true := by simpa using c2
      have HF := Lib.hid (show (decide (1 ≤ d) && n != -9223372036854775808 && Nat.gcd n.natAbs d.toNat == 1) = (((Nat.gcd n.natAbs d.toNat : Nat) : Int) == 1) from by
        rw [g1, g2, Bool.true_and, Bool.true_and, Bool.eq_iff_iff]; simp; omega)
      have e2 : ((d.toNat : Nat) : Int) = d := by omega
      clear c2
      go_enter Tryd.func27, Tryd.ntmps27
      go_wp2
      refine wp_region_grow (by kernel_rfl) (by kernel_rfl) ?_
      repeat (go_big_quiet_step ((first | (go_at_call 29; exact calls_grow_same (size_any n _ b1 b2)) | (go_at_call 47; exact calls_grow_same (e2 ▸ gcd_any n.natAbs d.toNat _ (by omega) (by omega))))))
      refine wpQuiet_nil ?_
      rintro _ ⟨m, rfl⟩
      go_wp2
      go_ret
      exact ⟨by rw [HF.out]; rfl, below_grow (below_box _ _) m⟩
  · have g1 : decide ((1:Int) ≤ d) = false := by simpa using c1
    go_enter Tryd.func27, Tryd.ntmps27
    go_wp2
    refine wp_region_grow (by kernel_rfl) (by kernel_rfl) ?_
    repeat (go_big_quiet_step (fail))
    refine wpQuiet_nil ?_
    rintro _ ⟨m, rfl⟩
    go_wp2
    go_ret
    exact ⟨by rw [g1]; rfl, below_grow (below_box _ _) m⟩

end Go.Proofs.YtgjhaanpkfheeaaDoor
