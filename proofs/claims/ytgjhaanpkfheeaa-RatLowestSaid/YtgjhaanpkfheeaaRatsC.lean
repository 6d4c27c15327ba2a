/- Least and Most, of both. -/
import Derived.Test.YtgjhaanpkfheeaaRatsB
namespace Go.Proofs.Ytgjhaanpkfheeaa
set_option linter.unusedVariables false
set_option linter.unusedSimpArgs false
open Go.RowKit

section
variable {oa : Option Addr} {len cap b o : Nat} {l : List Rt} (w : World) (h : Rats w oa len cap b o l)

include h in
set_option maxHeartbeats 1000000 in
theorem least_any : Calls Try.prog 26 #[.slice oa len cap] w fun e w' => e = .returned (rv (firstG (-1) true (0, 0) l)) ∧ Below w.heap.size w w' := by
  have hc := first_any (-1) oa len cap b o l (w.alloc (.cells #[.int .i64 0, .int .i64 0] 23)) (h.below (below_box _ _))
  obtain ⟨⟨p, q⟩, hr⟩ : ∃ r, firstG (-1) true (0, 0) l = r := ⟨_, rfl⟩
  rw [hr] at hc ⊢
  have HC := Lib.hid hc
  clear hc h hr
  go_enter Try.func26, Try.ntmps26
  go_wp2_with fail
  ((with_reducible refine (HC.out).mono ?_); rintro e w' ⟨rfl, hbw⟩)
  obtain ⟨m, rfl⟩ := grow_mk hbw
  clear hbw
  go_wp2_with fail
  exact bodyPost_ret (v := .agg #[.int .i64 p, .int .i64 q]) (by simp [results, Try.results26, go_sem]) rfl ⟨rfl, (((below_grow (below_box _ _) m).setCell (Nat.le_refl _) _).setCell (Nat.le_refl _) _)⟩

include h in
set_option maxHeartbeats 1000000 in
theorem most_any : Calls Try.prog 28 #[.slice oa len cap] w fun e w' => e = .returned (rv (firstG 1 true (0, 0) l)) ∧ Below w.heap.size w w' := by
  have hc := first_any 1 oa len cap b o l (w.alloc (.cells #[.int .i64 0, .int .i64 0] 23)) (h.below (below_box _ _))
  obtain ⟨⟨p, q⟩, hr⟩ : ∃ r, firstG 1 true (0, 0) l = r := ⟨_, rfl⟩
  rw [hr] at hc ⊢
  have HC := Lib.hid hc
  clear hc h hr
  go_enter Try.func28, Try.ntmps28
  go_wp2_with fail
  ((with_reducible refine (HC.out).mono ?_); rintro e w' ⟨rfl, hbw⟩)
  obtain ⟨m, rfl⟩ := grow_mk hbw
  clear hbw
  go_wp2_with fail
  exact bodyPost_ret (v := .agg #[.int .i64 p, .int .i64 q]) (by simp [results, Try.results28, go_sem]) rfl ⟨rfl, (((below_grow (below_box _ _) m).setCell (Nat.le_refl _) _).setCell (Nat.le_refl _) _)⟩

include h in
set_option maxHeartbeats 1000000 in
theorem rleast_any : Calls Try.prog 27 #[.slice oa len cap] w fun e w' => e = .returned (rv (firstG (-1) true (0, 0) l)) ∧ Below w.heap.size w w' := by
  have hc := best_any (-1) oa len cap b o l (w.alloc (.cells #[.int .i64 0, .int .i64 0] 23)) (h.below (below_box _ _)) (by decide)
  obtain ⟨⟨p, q⟩, hr⟩ : ∃ r, firstG (-1) true (0, 0) l = r := ⟨_, rfl⟩
  rw [hr] at hc ⊢
  have HC := Lib.hid hc
  clear hc h hr
  go_enter Try.func27, Try.ntmps27
  go_wp2_with fail
  ((with_reducible refine (HC.out).mono ?_); rintro e w' ⟨rfl, hbw⟩)
  obtain ⟨m, rfl⟩ := grow_mk hbw
  clear hbw
  go_wp2_with fail
  exact bodyPost_ret (v := .agg #[.int .i64 p, .int .i64 q]) (by simp [results, Try.results27, go_sem]) rfl ⟨rfl, (((below_grow (below_box _ _) m).setCell (Nat.le_refl _) _).setCell (Nat.le_refl _) _)⟩

include h in
set_option maxHeartbeats 1000000 in
theorem rmost_any : Calls Try.prog 29 #[.slice oa len cap] w fun e w' => e = .returned (rv (firstG 1 true (0, 0) l)) ∧ Below w.heap.size w w' := by
  have hc := best_any 1 oa len cap b o l (w.alloc (.cells #[.int .i64 0, .int .i64 0] 23)) (h.below (below_box _ _)) (by decide)
  obtain ⟨⟨p, q⟩, hr⟩ : ∃ r, firstG 1 true (0, 0) l = r := ⟨_, rfl⟩
  rw [hr] at hc ⊢
  have HC := Lib.hid hc
  clear hc h hr
  go_enter Try.func29, Try.ntmps29
  go_wp2_with fail
  ((with_reducible refine (HC.out).mono ?_); rintro e w' ⟨rfl, hbw⟩)
  obtain ⟨m, rfl⟩ := grow_mk hbw
  clear hbw
  go_wp2_with fail
  exact bodyPost_ret (v := .agg #[.int .i64 p, .int .i64 q]) (by simp [results, Try.results29, go_sem]) rfl ⟨rfl, (((below_grow (below_box _ _) m).setCell (Nat.le_refl _) _).setCell (Nat.le_refl _) _)⟩
end

/-- two fractions, laid anew -/
theorem rats_two (W : World) (t : TypeId) (x y : Rt) (hx : Is64 x) (hy : Is64 y) : Rats (W.alloc (.cells #[.int .i64 x.1, .int .i64 x.2, .int .i64 y.1, .int .i64 y.2] t)) (some ⟨W.heap.size, 0, none⟩) 2 2 W.heap.size 0 [x, y] := by
  have hb := Blk.new W t #[.int .i64 x.1, .int .i64 x.2, .int .i64 y.1, .int .i64 y.2]
  have key : ∀ (P : Nat → Rt → Prop), P 0 x → P 1 y → ∀ (i : Nat) (r : Rt), [x, y][i]? = some r → P i r := fun P h0 h1 i r hr => by
    match i, hr with
    | 0, hr => cases hr; exact h0
    | 1, hr => cases hr; exact h1
    | i + 2, hr => simp at hr
  refine ⟨rfl, Nat.le_refl _, by decide, fun _ => rfl, fun _ => by simp, key _ ?_ ?_, key _ ?_ ?_, key _ hx hy⟩
  · exact hb.cell 0
  · exact hb.cell 2
  · exact hb.cell 1
  · exact hb.cell 3
theorem rats_one (W : World) (t : TypeId) (x : Rt) (hx : Is64 x) : Rats (W.alloc (.cells #[.int .i64 x.1, .int .i64 x.2] t)) (some ⟨W.heap.size, 0, none⟩) 1 1 W.heap.size 0 [x] := by
  have hb := Blk.new W t #[.int .i64 x.1, .int .i64 x.2]
  have key : ∀ (P : Nat → Rt → Prop), P 0 x → ∀ (i : Nat) (r : Rt), [x][i]? = some r → P i r := fun P h0 i r hr => by
    match i, hr with
    | 0, hr => cases hr; exact h0
    | i + 1, hr => simp at hr
  refine ⟨rfl, Nat.le_refl _, by decide, fun _ => rfl, fun _ => by simp, key _ ?_, key _ ?_, key _ hx⟩
  · exact hb.cell 0
  · exact hb.cell 1

end Go.Proofs.Ytgjhaanpkfheeaa
