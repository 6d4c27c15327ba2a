/- Comparisons as truths, in the program and in the reference. -/
import Derived.Test.YtgjhaanpkfheeaaRatF
namespace Go.Proofs.Ytgjhaanpkfheeaa
set_option linter.unusedVariables false
set_option linter.unusedSimpArgs false
open Go.RowKit

/-- the truth of a comparison by how two stand -/
def cmpT (op x : Int) (ok : Bool) : Int :=
  if !ok || decide (op < 1) || decide (5 < op) then 1
  else if (op == 1 && decide (x < 0)) || (op == 2 && decide (x ≤ 0)) || (op == 3 && x == 0) || (op == 4 && decide (0 ≤ x)) || (op == 5 && decide (0 < x)) then 2 else 0

theorem cmpR_three (a b : Rt) : cmpR a b = -1 ∨ cmpR a b = 0 ∨ cmpR a b = 1 := by
  unfold cmpR cmpI
  split
  · split
    · exact Or.inl rfl
    · split
      · exact Or.inr (Or.inr rfl)
      · exact Or.inr (Or.inl rfl)
  · exact Or.inr (Or.inl rfl)

theorem five (op : Int) : op = 1 ∨ op = 2 ∨ op = 3 ∨ op = 4 ∨ op = 5 ∨ op < 1 ∨ 5 < op := by omega

set_option maxHeartbeats 4000000 in
theorem ccmp_any (op : Int) (a b : Rt) (w : World) (h1 : -9223372036854775808 ≤ op) (h2 : op ≤ 9223372036854775807) (ha : Is64 a) (hb : Is64 b) :
    Calls Try.prog 32 #[.int .i64 op, rv a, rv b] w fun e w' => e = .returned (.int .i64 (cmpT op (cmpR a b) (sureB a && sureB b))) ∧ Below w.heap.size w w' := by
  have hc := fun w => cmp_any a b w ha hb
  have h3 := cmpR_three a b
  generalize cmpR a b = x at *
  generalize (sureB a && sureB b) = ok at *
  obtain ⟨n, d⟩ := a; obtain ⟨p, q⟩ := b
  have HC := Lib.hid hc
  clear hc ha hb
  cases ok with
  | false =>
    clear h3
    go_enter Try.func32, Try.ntmps32
    go_wp2_with fail
    ((with_reducible refine (HC.out _).mono ?_); rintro e w' ⟨rfl, hbw⟩)
    obtain ⟨m, rfl⟩ := grow_mk hbw
    clear hbw
    go_wp2_with fail
    go_ret
    exact ⟨rfl, below_grow ((below_box _ _).alloc (by simp) _) _⟩
  | true =>
    have h4 := five op
    rcases h4 with rfl | rfl | rfl | rfl | rfl | h4 | h4
    iterate 5
      rcases h3 with rfl | rfl | rfl
      iterate 3
        clear h1 h2
        go_enter Try.func32, Try.ntmps32
        go_wp2_with fail
        ((with_reducible refine (HC.out _).mono ?_); rintro e w' ⟨rfl, hbw⟩)
        obtain ⟨m, rfl⟩ := grow_mk hbw
        clear hbw
        go_wp2_with fail
        go_ret
        exact ⟨rfl, below_grow ((below_box _ _).alloc (by simp) _) _⟩
    all_goals
      clear h3
      have g1 : (op == 1) = false := by rw [beq_eq_false_iff_ne]; omega
      have g2 : (op == 2) = false := by rw [beq_eq_false_iff_ne]; omega
      have g3 : (op == 3) = false := by rw [beq_eq_false_iff_ne]; omega
      have g4 : (op == 4) = false := by rw [beq_eq_false_iff_ne]; omega
      have g5 : (op == 5) = false := by rw [beq_eq_false_iff_ne]; omega
      have HF := Lib.hid (show cmpT op x true = 1 by unfold cmpT; rw [if_pos]; simp; omega)
      clear h4
      go_enter Try.func32, Try.ntmps32
      go_wp2_with fail
      ((with_reducible refine (HC.out _).mono ?_); rintro e w' ⟨rfl, hbw⟩)
      obtain ⟨m, rfl⟩ := grow_mk hbw
      clear hbw
      go_wp2_with fail
      go_ret
      exact ⟨ret_int HF.out.symm, below_grow ((below_box _ _).alloc (by simp) _) _⟩

set_option maxHeartbeats 4000000 in
theorem rccmp_any (op : Int) (a b : Rt) (w : World) (h1 : -9223372036854775808 ≤ op) (h2 : op ≤ 9223372036854775807) (ha : Is64 a) (hb : Is64 b) :
    Calls Try.prog 33 #[.int .i64 op, rv a, rv b] w fun e w' => e = .returned (.int .i64 (cmpT op (cmpR a b) (sureB a && sureB b))) ∧ Below w.heap.size w w' := by
  have hc := fun w => rcmp_any a b w ha hb
  have h3 := cmpR_three a b
  generalize cmpR a b = x at *
  generalize (sureB a && sureB b) = ok at *
  obtain ⟨n, d⟩ := a; obtain ⟨p, q⟩ := b
  have HC := Lib.hid hc
  clear hc ha hb
  cases ok with
  | false =>
    clear h3
    go_enter Try.func33, Try.ntmps33
    go_wp2_with fail
    ((with_reducible refine (HC.out _).mono ?_); rintro e w' ⟨rfl, hbw⟩)
    obtain ⟨m, rfl⟩ := grow_mk hbw
    clear hbw
    go_wp2_with fail
    go_ret
    exact ⟨rfl, below_grow ((below_box _ _).alloc (by simp) _) _⟩
  | true =>
    have h4 := five op
    rcases h4 with rfl | rfl | rfl | rfl | rfl | h4 | h4
    iterate 5
      rcases h3 with rfl | rfl | rfl
      iterate 3
        clear h1 h2
        go_enter Try.func33, Try.ntmps33
        go_wp2_with fail
        ((with_reducible refine (HC.out _).mono ?_); rintro e w' ⟨rfl, hbw⟩)
        obtain ⟨m, rfl⟩ := grow_mk hbw
        clear hbw
        go_wp2_with fail
        go_ret
        exact ⟨rfl, below_grow ((below_box _ _).alloc (by simp) _) _⟩
    · clear h3
      have g1 : decide (op < 1) = true := by simpa using h4
      have HF := Lib.hid (show cmpT op x true = 1 by unfold cmpT; rw [if_pos]; simp; omega)
      clear h4
      go_enter Try.func33, Try.ntmps33
      go_wp2_with fail
      ((with_reducible refine (HC.out _).mono ?_); rintro e w' ⟨rfl, hbw⟩)
      obtain ⟨m, rfl⟩ := grow_mk hbw
      clear hbw
      go_wp2_with fail
      go_ret
      exact ⟨ret_int HF.out.symm, below_grow ((below_box _ _).alloc (by simp) _) _⟩
    · clear h3
      have g1 : decide (op < 1) = false := by simp; omega
      have g2 : decide (5 < op) = true := by simpa using h4
      have HF := Lib.hid (show cmpT op x true = 1 by unfold cmpT; rw [if_pos]; simp; omega)
      clear h4
      go_enter Try.func33, Try.ntmps33
      go_wp2_with fail
      ((with_reducible refine (HC.out _).mono ?_); rintro e w' ⟨rfl, hbw⟩)
      obtain ⟨m, rfl⟩ := grow_mk hbw
      clear hbw
      go_wp2_with fail
      go_ret
      exact ⟨ret_int HF.out.symm, below_grow ((below_box _ _).alloc (by simp) _) _⟩

end Go.Proofs.Ytgjhaanpkfheeaa
