/- Which fractions may be, in both; the reference's fraction of two numbers. -/
import Derived.Test.YtgjhaanpkfheeaaDoorRatC
import Derived.Test.YtgjhaanpkfheeaaDoorWideE
namespace Go.Proofs.YtgjhaanpkfheeaaDoor
set_option linter.unusedVariables false
set_option linter.unusedSimpArgs false
open Go.RowKit

/-- whether it may be -/
def mayB (r : Rt) : Bool := (decide (r.1 = 0) && decide (r.2 = 0)) || sureB r

set_option maxHeartbeats 1000000 in
theorem may_any (r : Rt) (w : World) (h64 : Is64 r) :
    Calls Tryd.prog 23 #[rv r] w fun e w' => e = .returned (.bool (mayB r)) ∧ Below w.heap.size w w' := by
  have hs := fun w => sure_any r w h64
  obtain ⟨n, d⟩ := r
  have HS := Lib.hid hs
  clear hs
  unfold mayB
  simp only
  generalize sureB (n, d) = b at *
  by_cases c1 : n = 0
  · subst c1
    by_cases c2 : d = 0
    · subst c2
      go_enter Tryd.func23, Tryd.ntmps23
      go_wp2_with fail
      go_ret
      exact ⟨ret_bool rfl, below_box _ _⟩
    · have HF := Lib.hid (show (decide ((0 : Int) = 0) && decide (d = 0) || b) = b by simp [c2])
      go_enter Tryd.func23, Tryd.ntmps23
      go_wp2_with fail
      ((with_reducible refine (HS.out _).mono ?_); rintro e w' ⟨rfl, hbw⟩)
      obtain ⟨m, rfl⟩ := grow_mk hbw
      clear hbw
      go_wp2_with fail
      go_ret
      exact ⟨ret_bool (by simp [c2]), below_grow (below_box _ _) _⟩
  · go_enter Tryd.func23, Tryd.ntmps23
    go_wp2_with fail
    ((with_reducible refine (HS.out _).mono ?_); rintro e w' ⟨rfl, hbw⟩)
    obtain ⟨m, rfl⟩ := grow_mk hbw
    clear hbw
    go_wp2_with fail
    go_ret
    exact ⟨ret_bool (by simp [c1]), below_grow (below_box _ _) _⟩

set_option maxHeartbeats 1000000 in
theorem rmay_any (r : Rt) (w : World) (h64 : Is64 r) :
    Calls Tryd.prog 36 #[rv r] w fun e w' => e = .returned (.bool (mayB r)) ∧ Below w.heap.size w w' := by
  obtain ⟨n, d⟩ := r
  obtain ⟨b1, b2, b3, b4⟩ := h64
  unfold mayB sureB
  simp only at *
  by_cases c0 : n = 0 ∧ d = 0
  · obtain ⟨rfl, rfl⟩ := c0
    go_enter Tryd.func36, Tryd.ntmps36
    go_wp2_with fail
    go_ret
    exact ⟨ret_bool rfl, below_box _ _⟩
  · have t0 : ((n == 0) = false ∨ ((n == 0) = true ∧ (d == 0) = false)) := by
      by_cases hn : n = 0
      · exact Or.inr ⟨by simpa using hn, by simp; omega⟩
      · exact Or.inl (by simpa using hn)
    have HZ := Lib.hid (show (decide (n = 0) && decide (d = 0)) = false by simp; omega)
    clear c0
    by_cases c1 : 1 ≤ d
    · have g1 : decide ((1:Int) ≤ d) = true := by simpa using c1
      by_cases c2 : n = -9223372036854775808
      · subst c2
        clear t0
        go_enter Tryd.func36, Tryd.ntmps36
        go_wp2_with fail
        refine wp_region_grow (by kernel_rfl) (by kernel_rfl) ?_
        repeat (go_big_quiet_step (fail))
        refine wpQuiet_nil ?_
        rintro _ ⟨m, rfl⟩
        go_wp2_with fail
        go_ret
        exact ⟨ret_bool (by rw [HZ.out]; simp), below_grow (below_box _ _) m⟩
      · have g2 : (n != -9223372036854775808) = true := by simpa using c2
        have HF := Lib.hid (show (decide (1 ≤ d) && n != -9223372036854775808 && Nat.gcd n.natAbs d.toNat == 1) = (((Nat.gcd n.natAbs d.toNat : Nat) : Int) == 1) from by
          rw [g1, g2, Bool.true_and, Bool.true_and, Bool.eq_iff_iff]; simp; omega)
        have e2 : ((d.toNat : Nat) : Int) = d := by omega
        have HS := Lib.hid (fun w => e2 ▸ small_any n.natAbs d.toNat w (by omega) (by omega))
        clear c2 e2
        rcases t0 with t0 | ⟨t0, t1⟩
        all_goals
          go_enter Tryd.func36, Tryd.ntmps36
          go_wp2_with fail
          refine wp_region_grow (by kernel_rfl) (by kernel_rfl) ?_
          repeat (go_big_quiet_step ((first | (go_at_call 45; exact calls_grow_same (mag_any n _ b1 b2)) | (go_at_call 58; exact calls_grow (HS.out _)))))
          refine wpQuiet_nil ?_
          rintro _ ⟨m, rfl⟩
          go_wp2_with fail
          go_ret
          exact ⟨ret_bool (by rw [HZ.out, Bool.false_or]; exact HF.out.symm), below_grow (below_box _ _) m⟩
    · have g1 : decide ((1:Int) ≤ d) = false := by simpa using c1
      rcases t0 with t0 | ⟨t0, t1⟩
      all_goals
        go_enter Tryd.func36, Tryd.ntmps36
        go_wp2_with fail
        refine wp_region_grow (by kernel_rfl) (by kernel_rfl) ?_
        repeat (go_big_quiet_step (fail))
        refine wpQuiet_nil ?_
        rintro _ ⟨m, rfl⟩
        go_wp2_with fail
        go_ret
        exact ⟨ret_bool (by rw [HZ.out, g1]; rfl), below_grow (below_box _ _) m⟩

end Go.Proofs.YtgjhaanpkfheeaaDoor
