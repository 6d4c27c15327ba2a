/- What a condition that every program must know comes to. -/
import Derived.Test.YtgjhaanpkfheeaaCondB
import Derived.Test.YtgjhaanpkfheeaaLooseB
import Derived.LoopN
namespace Go.Proofs.Ytgjhaanpkfheeaa
set_option linter.unusedVariables false
set_option linter.unusedSimpArgs false
open Go.RowKit

/-- the empty text; nothing as an expression, as a leaf -/
abbrev sv0 : Value := .string ⟨#[]⟩
abbrev ev0 : Value := .agg #[.int .i64 0, .int .i64 0, .int .i64 0, .int .i64 0, .slice none 0 0]
/-- a leaf of a kind with a truth -/
abbrev alv (k t : Int) : Value := .agg #[.int .i64 k, .int .i64 t, sv0, .int .i64 0, .int .i64 0, .int .i64 0, .int .i64 0, .int .i64 0, .slice none 0 0, sv0, sv0, .bool false]

set_option maxHeartbeats 1000000 in
theorem same_zero (w : World) : Calls Try.prog 130 #[ev0, ev0] w fun e w' => e = .returned (.bool true) ∧ Below w.heap.size w w' := by
  go_enter Try.func130, Try.ntmps130
  go_wp2_with fail
  go_loopg [37] 0 (fun k s wr => s = .int .i64 0 ∧ Hid (Below w.heap.size w wr))
  case atStart => exact ⟨rfl, Lib.hid ((below_box _ _).alloc (by simp) _)⟩
  case round =>
    obtain ⟨rfl, hb⟩ := hrel
    go_wp2_with fail
    go_ret
    exact ⟨rfl, hb.out⟩

set_option maxHeartbeats 1000000 in
theorem likewise_zero (w : World) : Calls Try.prog 121 #[alv 0 0, alv 0 0] w fun e w' => e = .returned (.bool true) ∧ Below w.heap.size w w' := by
  have HS := Lib.hid (fun w => same_zero w)
  go_enter Try.func121, Try.ntmps121
  go_wp2_with fail
  ((with_reducible refine (HS.out _).mono ?_); rintro e w' ⟨rfl, hbw⟩)
  obtain ⟨m, rfl⟩ := grow_mk hbw
  clear hbw
  go_wp2_with fail
  go_ret
  exact ⟨rfl, below_grow ((below_box _ _).alloc (by simp) _) _⟩

set_option maxHeartbeats 1000000 in
theorem leaf_truth (w : World) : Calls Try.prog 120 #[alv 1 2] w fun e w' => e = .returned (.bool true) ∧ Below w.heap.size w w' := by
  have HS := Lib.hid (fun w => likewise_zero w)
  go_enter Try.func120, Try.ntmps120
  go_wp2_with fail
  ((with_reducible refine (HS.out _).mono ?_); rintro e w' ⟨rfl, hbw⟩)
  obtain ⟨m, rfl⟩ := grow_mk hbw
  clear hbw
  go_wp2_with fail
  go_ret
  exact ⟨rfl, below_grow ((below_box _ _).alloc (by simp) _) _⟩

/-- the cells of a condition with an only leaf; of a condition with one part -/
abbrev kidC : Array Value := #[.int .i64 4, .slice none 0 0, .int .i64 1, .int .i64 2, sv0, .int .i64 0, .int .i64 0, .int .i64 0, .int .i64 0, .int .i64 0, .slice none 0 0, sv0, sv0, .bool false]
abbrev notC (kb : Nat) : Array Value := #[.int .i64 3, .slice (some ⟨kb, 0, none⟩) 1 1, .int .i64 0, .int .i64 0, sv0, .int .i64 0, .int .i64 0, .int .i64 0, .int .i64 0, .int .i64 0, .slice none 0 0, sv0, sv0, .bool false]

set_option maxHeartbeats 1000000 in
theorem may_leaf (w : World) : Calls Try.prog 100 #[.agg kidC, .int .i64 2] w fun e w' => e = .returned (.bool true) ∧ Below w.heap.size w w' := by
  have HS := Lib.hid (fun w => leaf_truth w)
  go_enter Try.func100, Try.ntmps100
  go_wp2_with fail
  ((with_reducible refine (HS.out _).mono ?_); rintro e w' ⟨rfl, hbw⟩)
  obtain ⟨m, rfl⟩ := grow_mk hbw
  clear hbw
  go_wp2_with fail
  go_ret
  exact ⟨rfl, below_grow (below_box _ _) _⟩

set_option maxHeartbeats 1000000 in
theorem may_not (w : World) (kb : Nat) (t : TypeId) (h : Blk w kb t kidC) : Calls Try.prog 100 #[.agg (notC kb), .int .i64 1] w fun e w' => e = .returned (.bool true) ∧ Below w.heap.size w w' := by
  have HS := Lib.hid (fun w => likewise_zero w)
  have HM := Lib.hid (fun w => may_leaf w)
  have hlt := h.lt
  have c0 : w.cell? ⟨kb, 0, none⟩ = some (.int .i64 4) := h.cell 0
  have c1 : w.cell? ⟨kb, 1, none⟩ = some (.slice none 0 0) := h.cell 1
  have c2 : w.cell? ⟨kb, 2, none⟩ = some (.int .i64 1) := h.cell 2
  have c3 : w.cell? ⟨kb, 3, none⟩ = some (.int .i64 2) := h.cell 3
  have c4 : w.cell? ⟨kb, 4, none⟩ = some sv0 := h.cell 4
  have c5 : w.cell? ⟨kb, 5, none⟩ = some (.int .i64 0) := h.cell 5
  have c6 : w.cell? ⟨kb, 6, none⟩ = some (.int .i64 0) := h.cell 6
  have c7 : w.cell? ⟨kb, 7, none⟩ = some (.int .i64 0) := h.cell 7
  have c8 : w.cell? ⟨kb, 8, none⟩ = some (.int .i64 0) := h.cell 8
  have c9 : w.cell? ⟨kb, 9, none⟩ = some (.int .i64 0) := h.cell 9
  have c10 : w.cell? ⟨kb, 10, none⟩ = some (.slice none 0 0) := h.cell 10
  have c11 : w.cell? ⟨kb, 11, none⟩ = some sv0 := h.cell 11
  have c12 : w.cell? ⟨kb, 12, none⟩ = some sv0 := h.cell 12
  have c13 : w.cell? ⟨kb, 13, none⟩ = some (.bool false) := h.cell 13
  clear h
  go_enter Try.func100, Try.ntmps100
  go_wp2_with fail
  ((with_reducible refine (HS.out _).mono ?_); rintro e w' ⟨rfl, hbw⟩)
  obtain ⟨m, rfl⟩ := grow_mk hbw
  clear hbw
  go_wp2_with fail
  refine wp_loop_rounds 2 ?_
  rw [rounds_succ]
  go_wp2_with fail
  ((with_reducible refine (HM.out _).mono ?_); rintro e w' ⟨rfl, hbw⟩)
  obtain ⟨m2, rfl⟩ := grow_mk hbw
  clear hbw
  go_wp2_with fail
  rw [rounds_succ]
  go_wp2_with fail
  go_ret
  exact ⟨rfl, below_grow (below_grow (below_box _ _) _) _⟩

set_option maxHeartbeats 1000000 in
theorem May_not (w : World) (kb : Nat) (t : TypeId) (h : Blk w kb t kidC) : Calls Try.prog 82 #[.agg (notC kb)] w fun e w' => e = .returned (.bool true) ∧ Below w.heap.size w w' := by
  have HM := Lib.hid (may_not (w.alloc (.cells (notC kb) 49)) kb t (h.old _))
  clear h
  go_enter Try.func82, Try.ntmps82
  go_wp2_with fail
  ((with_reducible refine (HM.out).mono ?_); rintro e w' ⟨rfl, hbw⟩)
  obtain ⟨m, rfl⟩ := grow_mk hbw
  clear hbw
  go_wp2_with fail
  go_ret
  exact ⟨rfl, below_grow (below_box _ _) _⟩

end Go.Proofs.Ytgjhaanpkfheeaa
