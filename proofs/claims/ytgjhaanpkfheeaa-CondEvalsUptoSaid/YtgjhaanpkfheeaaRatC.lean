/- The fraction of two numbers; which fractions may be. -/
import Derived.Test.YtgjhaanpkfheeaaRatB
namespace Go.Proofs.Ytgjhaanpkfheeaa
set_option linter.unusedVariables false
set_option linter.unusedSimpArgs false
open Go.RowKit

/-- the sign of a quotient -/
def neg2 (a b : Int) : Bool := decide (a < 0) != decide (b < 0)
/-- the fraction of two numbers -/
def ofF (n d : Int) : Rt := fracOf (neg2 n d) n.natAbs d.natAbs

set_option maxHeartbeats 1000000 in
theorem of_any (n d : Int) (w : World) (h64 : Is64 (n, d)) :
    Calls Try.prog 22 #[.int .i64 n, .int .i64 d] w fun e w' => e = .returned (rv (ofF n d)) ∧ Below w.heap.size w w' := by
  obtain ⟨b1, b2, b3, b4⟩ := h64
  simp only at b1 b2 b3 b4
  by_cases c1 : d = 0
  · subst c1
    have HF := Lib.hid (show ofF n 0 = (0, 0) from by unfold ofF fracOf; simp)
    go_enter Try.func22, Try.ntmps22
    go_wp2
    exact bodyPost_ret (v := .agg #[.int .i64 0, .int .i64 0]) (by simp [results, Try.results22, go_sem]) rfl ⟨by rw [HF.out], below_box _ _⟩
  · have hd : 0 < d.natAbs := by omega
    have g1 : (d == 0) = false := by simpa using c1
    have HF := Lib.hid (show ofF n d = madeF (neg2 n d) (n.natAbs / Nat.gcd n.natAbs d.natAbs) (d.natAbs / Nat.gcd n.natAbs d.natAbs) from of_fin _ _ _ hd)
    have gp := Nat.gcd_pos_of_pos_right n.natAbs hd
    have q1 := Nat.div_le_self n.natAbs (Nat.gcd n.natAbs d.natAbs)
    have q2 := Nat.div_le_self d.natAbs (Nat.gcd n.natAbs d.natAbs)
    have gb : Nat.gcd n.natAbs d.natAbs ≤ d.natAbs := Nat.gcd_le_right _ hd
    have b5 : n.natAbs ≤ 9223372036854775808 := by omega
    have b6 : d.natAbs ≤ 9223372036854775808 := by omega
    clear c1
    go_enter Try.func22, Try.ntmps22
    go_wp2_with fail
    ((with_reducible refine (size_any n _ b1 b2).mono ?_); rintro e w' ⟨rfl, rfl⟩)
    go_wp2_with fail
    ((with_reducible refine (size_any d _ b3 b4).mono ?_); rintro e w' ⟨rfl, rfl⟩)
    go_wp2_with fail
    ((with_reducible refine (gcd_any n.natAbs d.natAbs _ (by omega) (by omega)).mono ?_); rintro e w' ⟨rfl, rfl⟩)
    go_wp2_with fail
    generalize hgg : Nat.gcd n.natAbs d.natAbs = g at *
    have r1 : n.natAbs / g < 18446744073709551616 := Nat.lt_of_le_of_lt q1 (by omega)
    have r2 : d.natAbs / g < 18446744073709551616 := Nat.lt_of_le_of_lt q2 (by omega)
    have mk : ∀ w, _ := fun w => made_any (neg2 n d) (n.natAbs / g) (d.natAbs / g) w r1 r2
    obtain ⟨⟨p, q⟩, hr⟩ : ∃ r, madeF (neg2 n d) (n.natAbs / g) (d.natAbs / g) = r := ⟨_, rfl⟩
    rw [hr] at mk HF
    rw [Int.natCast_ediv, Int.natCast_ediv] at mk
    unfold neg2 rv at mk
    have hw1 : IntKind.u64.wrap ((n.natAbs : Int) / (g : Int)) = (n.natAbs : Int) / (g : Int) := by rw [← Int.natCast_ediv]; exact wrap_nat _ r1
    have hw2 : IntKind.u64.wrap ((d.natAbs : Int) / (g : Int)) = (d.natAbs : Int) / (g : Int) := by rw [← Int.natCast_ediv]; exact wrap_nat _ r2
    clear hr hgg
    refine wp_region_last 12 _ (by kernel_rfl) rfl (by kernel_rfl) (by kernel_rfl) ?_
    simp only [headOf, hush, List.take_succ_cons, List.take_zero, List.cons_append, List.nil_append, List.drop_succ_cons, List.drop_zero]
    repeat (go_big_quiet_step ((first | (go_at_call 66; exact calls_grow (mk _)))))
    refine wpQuiet_nil ?_
    rintro _ ⟨m, rfl⟩
    go_wp2
    exact bodyPost_ret (v := .agg #[.int .i64 p, .int .i64 q]) (by simp [results, Try.results22, go_sem]) rfl ⟨by rw [HF.out], ((below_grow (below_box _ _) m).setCell (Nat.le_refl _) _).setCell (Nat.le_refl _) _⟩

end Go.Proofs.Ytgjhaanpkfheeaa
