/- Which leaves may be: the program's word. -/
import Derived.Test.YtgjhaanpkfheeaaLike
import Derived.Test.YtgjhaanpkfheeaaMayF
namespace Go.Proofs.Ytgjhaanpkfheeaa
set_option linter.unusedVariables false
set_option linter.unusedSimpArgs false
open Go.RowKit

theorem zeroX_in (w : World) : ExIn w 1 zeroX := ⟨⟨by decide, by decide⟩, ⟨by decide, by decide, by decide, by decide⟩, ⟨by decide, by decide⟩, Nat.le_refl _, Nat.zero_le _, by simp, fun h => absurd h (by simp), fun i x h => by simp at h⟩

/-- a leaf against the empty one -/
theorem clike_zero {h : Nat} {ex : Ex} {w : World} (hx : ExIn w h ex) (k t : Int) (nm : ByteArray) (op : Int) (wd vl : ByteArray) (an : Bool) (wx : World) (hb : Below w.heap.size w wx) :
    Calls Try.prog 121 #[lv ⟨k, t, nm, op, ex, wd, vl, an⟩, lv zeroLf] wx fun x w' => x = .returned (.bool (likeB ⟨k, t, nm, op, ex, wd, vl, an⟩ zeroLf (zeroE ex))) ∧ Below wx.heap.size wx w' :=
  clike_any _ _ _ _ fun wy hy => csame_zero h ex wy ((hx.below h hb).below h hy)

theorem zeroLf_lv : lv zeroLf = .agg #[.int .i64 0, .int .i64 0, .string ⟨#[]⟩, .int .i64 0, .int .i64 0, .int .i64 0, .int .i64 0, .int .i64 0, .slice none 0 0, .string ⟨#[]⟩, .string ⟨#[]⟩, .bool false] := rfl


set_option maxRecDepth 20000 in
set_option maxHeartbeats 8000000 in
theorem cleaf0 (h : Nat) (t : Int) (nm : ByteArray) (op : Int) (ex : Ex) (wd vl : ByteArray) (an : Bool) (w : World) (hx : ExIn w h ex) :
    Calls Try.prog 120 #[lv ⟨0, t, nm, op, ex, wd, vl, an⟩] w fun x w' => x = .returned (.bool (leafB ⟨0, t, nm, op, ex, wd, vl, an⟩)) ∧ Below w.heap.size w w' := by
  have hL := clike_zero hx
  have hL0 := clike_zero (zeroX_in w)
  have hM := fun wx hb => cMay_any h ex wx (hx.below h (w' := wx) hb)
  have e0 : zeroE zeroX = true := rfl
  rw [e0] at hL0
  obtain ⟨k', n, d, u, oa, b, o, cap, kids⟩ := ex
  unfold leafB noS
  simp only
  rw [if_pos (by decide)]
  generalize zeroE (.mk k' n d u oa b o cap kids) = Z at *
  generalize mayE 340 (.mk k' n d u oa b o cap kids) = M at *
  unfold zeroX at *
  simp only [lv_mk, zeroLf_lv, xv_mk, List.length_nil] at hL hL0 hM ⊢
  have HL := Lib.hid hL
  have HL0 := Lib.hid hL0
  have HM := Lib.hid hM
  clear hL hL0 hM hx
  generalize kids.length = L at *
  obtain ⟨N, gN⟩ : ∃ b, (nm.toList == []) = b := ⟨_, rfl⟩
  try rw [gN]
  go_enter Try.func120, Try.ntmps120
  go_wp2_with fail
  ((with_reducible refine (HL.out _ _ _ _ _ _ _ _ (by repeat (first | with_reducible exact below_box _ _ | (with_reducible refine Below.setCell ?_ ?hq _; case hq => simp) | (with_reducible refine Below.alloc ?_ ?hq _; case hq => simp) | with_reducible refine below_grow ?_ _))).mono ?_); rintro e w' ⟨rfl, hbw⟩)
  obtain ⟨m1, rfl⟩ := grow_mk hbw
  clear hbw
  go_wp2_with fail
  go_ret
  exact ⟨ret_bool rfl, (by repeat (first | with_reducible exact below_box _ _ | (with_reducible refine Below.setCell ?_ ?hq _; case hq => simp) | (with_reducible refine Below.alloc ?_ ?hq _; case hq => simp) | with_reducible refine below_grow ?_ _))⟩

set_option maxRecDepth 20000 in
set_option maxHeartbeats 8000000 in
theorem cleaf1 (h : Nat) (t : Int) (nm : ByteArray) (op : Int) (ex : Ex) (wd vl : ByteArray) (an : Bool) (w : World) (hx : ExIn w h ex) :
    Calls Try.prog 120 #[lv ⟨1, t, nm, op, ex, wd, vl, an⟩] w fun x w' => x = .returned (.bool (leafB ⟨1, t, nm, op, ex, wd, vl, an⟩)) ∧ Below w.heap.size w w' := by
  have hL := clike_zero hx
  have hL0 := clike_zero (zeroX_in w)
  have hM := fun wx hb => cMay_any h ex wx (hx.below h (w' := wx) hb)
  have e0 : zeroE zeroX = true := rfl
  rw [e0] at hL0
  obtain ⟨k', n, d, u, oa, b, o, cap, kids⟩ := ex
  unfold leafB noS
  simp only
  rw [if_neg (by decide)]
  rw [if_pos (by decide)]
  generalize zeroE (.mk k' n d u oa b o cap kids) = Z at *
  generalize mayE 340 (.mk k' n d u oa b o cap kids) = M at *
  unfold zeroX at *
  simp only [lv_mk, zeroLf_lv, xv_mk, List.length_nil] at hL hL0 hM ⊢
  have HL := Lib.hid hL
  have HL0 := Lib.hid hL0
  have HM := Lib.hid hM
  clear hL hL0 hM hx
  generalize kids.length = L at *
  obtain ⟨N, gN⟩ : ∃ b, (nm.toList == []) = b := ⟨_, rfl⟩
  try rw [gN]
  obtain ⟨b1, g1⟩ : ∃ b, decide ((0 : Int) ≤ t) = b := ⟨_, rfl⟩
  obtain ⟨b2, g2⟩ : ∃ b, decide (t ≤ (2 : Int)) = b := ⟨_, rfl⟩
  rw [g1, g2]
  cases b1 with
  | false =>
    go_enter Try.func120, Try.ntmps120
    go_wp2_with fail
    go_ret
    exact ⟨ret_bool rfl, (by repeat (first | with_reducible exact below_box _ _ | (with_reducible refine Below.setCell ?_ ?hq _; case hq => simp) | (with_reducible refine Below.alloc ?_ ?hq _; case hq => simp) | with_reducible refine below_grow ?_ _))⟩
  | true =>
    cases b2 with
    | false =>
      go_enter Try.func120, Try.ntmps120
      go_wp2_with fail
      go_ret
      exact ⟨ret_bool rfl, (by repeat (first | with_reducible exact below_box _ _ | (with_reducible refine Below.setCell ?_ ?hq _; case hq => simp) | (with_reducible refine Below.alloc ?_ ?hq _; case hq => simp) | with_reducible refine below_grow ?_ _))⟩
    | true =>
      go_enter Try.func120, Try.ntmps120
      go_wp2_with fail
      ((with_reducible refine (HL.out _ _ _ _ _ _ _ _ (by repeat (first | with_reducible exact below_box _ _ | (with_reducible refine Below.setCell ?_ ?hq _; case hq => simp) | (with_reducible refine Below.alloc ?_ ?hq _; case hq => simp) | with_reducible refine below_grow ?_ _))).mono ?_); rintro e w' ⟨rfl, hbw⟩)
      obtain ⟨m1, rfl⟩ := grow_mk hbw
      clear hbw
      go_wp2_with fail
      go_ret
      exact ⟨ret_bool rfl, (by repeat (first | with_reducible exact below_box _ _ | (with_reducible refine Below.setCell ?_ ?hq _; case hq => simp) | (with_reducible refine Below.alloc ?_ ?hq _; case hq => simp) | with_reducible refine below_grow ?_ _))⟩

set_option maxRecDepth 20000 in
set_option maxHeartbeats 8000000 in
theorem cleaf2 (h : Nat) (t : Int) (nm : ByteArray) (op : Int) (ex : Ex) (wd vl : ByteArray) (an : Bool) (w : World) (hx : ExIn w h ex) :
    Calls Try.prog 120 #[lv ⟨2, t, nm, op, ex, wd, vl, an⟩] w fun x w' => x = .returned (.bool (leafB ⟨2, t, nm, op, ex, wd, vl, an⟩)) ∧ Below w.heap.size w w' := by
  have hL := clike_zero hx
  have hL0 := clike_zero (zeroX_in w)
  have hM := fun wx hb => cMay_any h ex wx (hx.below h (w' := wx) hb)
  have e0 : zeroE zeroX = true := rfl
  rw [e0] at hL0
  obtain ⟨k', n, d, u, oa, b, o, cap, kids⟩ := ex
  unfold leafB noS
  simp only
  rw [if_neg (by decide)]
  rw [if_neg (by decide)]
  rw [if_pos (by decide)]
  generalize zeroE (.mk k' n d u oa b o cap kids) = Z at *
  generalize mayE 340 (.mk k' n d u oa b o cap kids) = M at *
  unfold zeroX at *
  simp only [lv_mk, zeroLf_lv, xv_mk, List.length_nil] at hL hL0 hM ⊢
  have HL := Lib.hid hL
  have HL0 := Lib.hid hL0
  have HM := Lib.hid hM
  clear hL hL0 hM hx
  generalize kids.length = L at *
  obtain ⟨N, gN⟩ : ∃ b, (nm.toList == []) = b := ⟨_, rfl⟩
  try rw [gN]
  cases N with
  | false =>
    go_enter Try.func120, Try.ntmps120
    go_wp2_with fail
    ((with_reducible refine (HL.out _ _ _ _ _ _ _ _ (by repeat (first | with_reducible exact below_box _ _ | (with_reducible refine Below.setCell ?_ ?hq _; case hq => simp) | (with_reducible refine Below.alloc ?_ ?hq _; case hq => simp) | with_reducible refine below_grow ?_ _))).mono ?_); rintro e w' ⟨rfl, hbw⟩)
    obtain ⟨m1, rfl⟩ := grow_mk hbw
    clear hbw
    go_wp2_with fail
    go_ret
    exact ⟨ret_bool rfl, (by repeat (first | with_reducible exact below_box _ _ | (with_reducible refine Below.setCell ?_ ?hq _; case hq => simp) | (with_reducible refine Below.alloc ?_ ?hq _; case hq => simp) | with_reducible refine below_grow ?_ _))⟩
  | true =>
    go_enter Try.func120, Try.ntmps120
    go_wp2_with fail
    go_ret
    exact ⟨ret_bool rfl, (by repeat (first | with_reducible exact below_box _ _ | (with_reducible refine Below.setCell ?_ ?hq _; case hq => simp) | (with_reducible refine Below.alloc ?_ ?hq _; case hq => simp) | with_reducible refine below_grow ?_ _))⟩

set_option maxRecDepth 20000 in
set_option maxHeartbeats 8000000 in
theorem cleaf3 (h : Nat) (t : Int) (nm : ByteArray) (op : Int) (ex : Ex) (wd vl : ByteArray) (an : Bool) (w : World) (hx : ExIn w h ex) :
    Calls Try.prog 120 #[lv ⟨3, t, nm, op, ex, wd, vl, an⟩] w fun x w' => x = .returned (.bool (leafB ⟨3, t, nm, op, ex, wd, vl, an⟩)) ∧ Below w.heap.size w w' := by
  have hL := clike_zero hx
  have hL0 := clike_zero (zeroX_in w)
  have hM := fun wx hb => cMay_any h ex wx (hx.below h (w' := wx) hb)
  have e0 : zeroE zeroX = true := rfl
  rw [e0] at hL0
  obtain ⟨k', n, d, u, oa, b, o, cap, kids⟩ := ex
  unfold leafB noS
  simp only
  rw [if_neg (by decide)]
  rw [if_neg (by decide)]
  rw [if_pos (by decide)]
  generalize zeroE (.mk k' n d u oa b o cap kids) = Z at *
  generalize mayE 340 (.mk k' n d u oa b o cap kids) = M at *
  unfold zeroX at *
  simp only [lv_mk, zeroLf_lv, xv_mk, List.length_nil] at hL hL0 hM ⊢
  have HL := Lib.hid hL
  have HL0 := Lib.hid hL0
  have HM := Lib.hid hM
  clear hL hL0 hM hx
  generalize kids.length = L at *
  obtain ⟨N, gN⟩ : ∃ b, (nm.toList == []) = b := ⟨_, rfl⟩
  try rw [gN]
  cases N with
  | false =>
    go_enter Try.func120, Try.ntmps120
    go_wp2_with fail
    ((with_reducible refine (HL.out _ _ _ _ _ _ _ _ (by repeat (first | with_reducible exact below_box _ _ | (with_reducible refine Below.setCell ?_ ?hq _; case hq => simp) | (with_reducible refine Below.alloc ?_ ?hq _; case hq => simp) | with_reducible refine below_grow ?_ _))).mono ?_); rintro e w' ⟨rfl, hbw⟩)
    obtain ⟨m1, rfl⟩ := grow_mk hbw
    clear hbw
    go_wp2_with fail
    go_ret
    exact ⟨ret_bool rfl, (by repeat (first | with_reducible exact below_box _ _ | (with_reducible refine Below.setCell ?_ ?hq _; case hq => simp) | (with_reducible refine Below.alloc ?_ ?hq _; case hq => simp) | with_reducible refine below_grow ?_ _))⟩
  | true =>
    go_enter Try.func120, Try.ntmps120
    go_wp2_with fail
    go_ret
    exact ⟨ret_bool rfl, (by repeat (first | with_reducible exact below_box _ _ | (with_reducible refine Below.setCell ?_ ?hq _; case hq => simp) | (with_reducible refine Below.alloc ?_ ?hq _; case hq => simp) | with_reducible refine below_grow ?_ _))⟩

set_option maxRecDepth 20000 in
set_option maxHeartbeats 8000000 in
theorem cleaf4 (h : Nat) (t : Int) (nm : ByteArray) (op : Int) (ex : Ex) (wd vl : ByteArray) (an : Bool) (w : World) (hx : ExIn w h ex) :
    Calls Try.prog 120 #[lv ⟨4, t, nm, op, ex, wd, vl, an⟩] w fun x w' => x = .returned (.bool (leafB ⟨4, t, nm, op, ex, wd, vl, an⟩)) ∧ Below w.heap.size w w' := by
  have hL := clike_zero hx
  have hL0 := clike_zero (zeroX_in w)
  have hM := fun wx hb => cMay_any h ex wx (hx.below h (w' := wx) hb)
  have e0 : zeroE zeroX = true := rfl
  rw [e0] at hL0
  obtain ⟨k', n, d, u, oa, b, o, cap, kids⟩ := ex
  unfold leafB noS
  simp only
  rw [if_neg (by decide)]
  rw [if_neg (by decide)]
  rw [if_neg (by decide)]
  rw [if_pos (by decide)]
  generalize zeroE (.mk k' n d u oa b o cap kids) = Z at *
  generalize mayE 340 (.mk k' n d u oa b o cap kids) = M at *
  unfold zeroX at *
  simp only [lv_mk, zeroLf_lv, xv_mk, List.length_nil] at hL hL0 hM ⊢
  have HL := Lib.hid hL
  have HL0 := Lib.hid hL0
  have HM := Lib.hid hM
  clear hL hL0 hM hx
  generalize kids.length = L at *
  obtain ⟨N, gN⟩ : ∃ b, (nm.toList == []) = b := ⟨_, rfl⟩
  try rw [gN]
  obtain ⟨b1, g4⟩ : ∃ b, decide ((1 : Int) ≤ op) = b := ⟨_, rfl⟩
  obtain ⟨b2, g5⟩ : ∃ b, decide (op ≤ (5 : Int)) = b := ⟨_, rfl⟩
  rw [g4, g5]
  cases N with
  | true =>
    go_enter Try.func120, Try.ntmps120
    go_wp2_with fail
    go_ret
    exact ⟨ret_bool rfl, (by repeat (first | with_reducible exact below_box _ _ | (with_reducible refine Below.setCell ?_ ?hq _; case hq => simp) | (with_reducible refine Below.alloc ?_ ?hq _; case hq => simp) | with_reducible refine below_grow ?_ _))⟩
  | false =>
    cases b1 with
    | false =>
      go_enter Try.func120, Try.ntmps120
      go_wp2_with fail
      go_ret
      exact ⟨ret_bool rfl, (by repeat (first | with_reducible exact below_box _ _ | (with_reducible refine Below.setCell ?_ ?hq _; case hq => simp) | (with_reducible refine Below.alloc ?_ ?hq _; case hq => simp) | with_reducible refine below_grow ?_ _))⟩
    | true =>
      cases b2 with
      | false =>
        go_enter Try.func120, Try.ntmps120
        go_wp2_with fail
        go_ret
        exact ⟨ret_bool rfl, (by repeat (first | with_reducible exact below_box _ _ | (with_reducible refine Below.setCell ?_ ?hq _; case hq => simp) | (with_reducible refine Below.alloc ?_ ?hq _; case hq => simp) | with_reducible refine below_grow ?_ _))⟩
      | true =>
        cases M with
        | false =>
          go_enter Try.func120, Try.ntmps120
          have hb1 : Below w.heap.size w ((w.alloc (.cells #[.int .i64 4, .int .i64 t, .string nm, .int .i64 op, .int .i64 k', .int .i64 n, .int .i64 d, .int .i64 u, .slice oa L cap, .string wd, .string vl, .bool an] 47)).alloc (.cells #[.int .i64 0, .int .i64 t, .string nm, .int .i64 op, .int .i64 k', .int .i64 n, .int .i64 d, .int .i64 u, .slice oa L cap, .string wd, .string vl, .bool an] 47)) := (below_box _ _).alloc (by simp) _
          have hb2 : Blk ((w.alloc (.cells #[.int .i64 4, .int .i64 t, .string nm, .int .i64 op, .int .i64 k', .int .i64 n, .int .i64 d, .int .i64 u, .slice oa L cap, .string wd, .string vl, .bool an] 47)).alloc (.cells #[.int .i64 0, .int .i64 t, .string nm, .int .i64 op, .int .i64 k', .int .i64 n, .int .i64 d, .int .i64 u, .slice oa L cap, .string wd, .string vl, .bool an] 47)) (w.heap.size + 1) 47 #[.int .i64 0, .int .i64 t, .string nm, .int .i64 op, .int .i64 k', .int .i64 n, .int .i64 d, .int .i64 u, .slice oa L cap, .string wd, .string vl, .bool an] := Blk.new2 _ _ _ _
          go_wp2_with fail
          ((with_reducible refine (HM.out _ hb1).mono ?_); rintro e w' ⟨rfl, hbw⟩)
          obtain ⟨m0, rfl⟩ := grow_mk hbw
          clear hbw
          replace hb1 := below_grow hb1 m0
          replace hb2 := hb2.grow m0
          generalize grow _ m0 = wg at *
          have cb0 : wg.cell? ⟨w.heap.size + 1, 0, none⟩ = some (.int .i64 0) := (hb2).cell 0
          have fcb0 := (hb2).frozen 0
          have cb1 : wg.cell? ⟨w.heap.size + 1, 1, none⟩ = some (.int .i64 t) := (hb2).cell 1
          have fcb1 := (hb2).frozen 1
          have cb2 : wg.cell? ⟨w.heap.size + 1, 2, none⟩ = some (.string nm) := (hb2).cell 2
          have fcb2 := (hb2).frozen 2
          have cb3 : wg.cell? ⟨w.heap.size + 1, 3, none⟩ = some (.int .i64 op) := (hb2).cell 3
          have fcb3 := (hb2).frozen 3
          have cb4 : wg.cell? ⟨w.heap.size + 1, 4, none⟩ = some (.int .i64 k') := (hb2).cell 4
          have fcb4 := (hb2).frozen 4
          have cb5 : wg.cell? ⟨w.heap.size + 1, 5, none⟩ = some (.int .i64 n) := (hb2).cell 5
          have fcb5 := (hb2).frozen 5
          have cb6 : wg.cell? ⟨w.heap.size + 1, 6, none⟩ = some (.int .i64 d) := (hb2).cell 6
          have fcb6 := (hb2).frozen 6
          have cb7 : wg.cell? ⟨w.heap.size + 1, 7, none⟩ = some (.int .i64 u) := (hb2).cell 7
          have fcb7 := (hb2).frozen 7
          have cb8 : wg.cell? ⟨w.heap.size + 1, 8, none⟩ = some (.slice oa L cap) := (hb2).cell 8
          have fcb8 := (hb2).frozen 8
          have cb9 : wg.cell? ⟨w.heap.size + 1, 9, none⟩ = some (.string wd) := (hb2).cell 9
          have fcb9 := (hb2).frozen 9
          have cb10 : wg.cell? ⟨w.heap.size + 1, 10, none⟩ = some (.string vl) := (hb2).cell 10
          have fcb10 := (hb2).frozen 10
          have cb11 : wg.cell? ⟨w.heap.size + 1, 11, none⟩ = some (.bool an) := (hb2).cell 11
          have fcb11 := (hb2).frozen 11
          have lcb := (hb2).lt
          clear hb2
          go_wp2_with fail
          go_ret
          exact ⟨ret_bool rfl, (by repeat (first | with_reducible exact hb1 | (with_reducible refine Below.setCell ?_ ?hq _; case hq => simp) | (with_reducible refine Below.alloc ?_ ?hq _; case hq => simp) | with_reducible refine below_grow ?_ _))⟩
        | true =>
          go_enter Try.func120, Try.ntmps120
          have hb1 : Below w.heap.size w ((w.alloc (.cells #[.int .i64 4, .int .i64 t, .string nm, .int .i64 op, .int .i64 k', .int .i64 n, .int .i64 d, .int .i64 u, .slice oa L cap, .string wd, .string vl, .bool an] 47)).alloc (.cells #[.int .i64 0, .int .i64 t, .string nm, .int .i64 op, .int .i64 k', .int .i64 n, .int .i64 d, .int .i64 u, .slice oa L cap, .string wd, .string vl, .bool an] 47)) := (below_box _ _).alloc (by simp) _
          have hb2 : Blk ((w.alloc (.cells #[.int .i64 4, .int .i64 t, .string nm, .int .i64 op, .int .i64 k', .int .i64 n, .int .i64 d, .int .i64 u, .slice oa L cap, .string wd, .string vl, .bool an] 47)).alloc (.cells #[.int .i64 0, .int .i64 t, .string nm, .int .i64 op, .int .i64 k', .int .i64 n, .int .i64 d, .int .i64 u, .slice oa L cap, .string wd, .string vl, .bool an] 47)) (w.heap.size + 1) 47 #[.int .i64 0, .int .i64 t, .string nm, .int .i64 op, .int .i64 k', .int .i64 n, .int .i64 d, .int .i64 u, .slice oa L cap, .string wd, .string vl, .bool an] := Blk.new2 _ _ _ _
          go_wp2_with fail
          ((with_reducible refine (HM.out _ hb1).mono ?_); rintro e w' ⟨rfl, hbw⟩)
          obtain ⟨m0, rfl⟩ := grow_mk hbw
          clear hbw
          replace hb1 := below_grow hb1 m0
          replace hb2 := hb2.grow m0
          generalize grow _ m0 = wg at *
          have cb0 : wg.cell? ⟨w.heap.size + 1, 0, none⟩ = some (.int .i64 0) := (hb2).cell 0
          have fcb0 := (hb2).frozen 0
          have cb1 : wg.cell? ⟨w.heap.size + 1, 1, none⟩ = some (.int .i64 t) := (hb2).cell 1
          have fcb1 := (hb2).frozen 1
          have cb2 : wg.cell? ⟨w.heap.size + 1, 2, none⟩ = some (.string nm) := (hb2).cell 2
          have fcb2 := (hb2).frozen 2
          have cb3 : wg.cell? ⟨w.heap.size + 1, 3, none⟩ = some (.int .i64 op) := (hb2).cell 3
          have fcb3 := (hb2).frozen 3
          have cb4 : wg.cell? ⟨w.heap.size + 1, 4, none⟩ = some (.int .i64 k') := (hb2).cell 4
          have fcb4 := (hb2).frozen 4
          have cb5 : wg.cell? ⟨w.heap.size + 1, 5, none⟩ = some (.int .i64 n) := (hb2).cell 5
          have fcb5 := (hb2).frozen 5
          have cb6 : wg.cell? ⟨w.heap.size + 1, 6, none⟩ = some (.int .i64 d) := (hb2).cell 6
          have fcb6 := (hb2).frozen 6
          have cb7 : wg.cell? ⟨w.heap.size + 1, 7, none⟩ = some (.int .i64 u) := (hb2).cell 7
          have fcb7 := (hb2).frozen 7
          have cb8 : wg.cell? ⟨w.heap.size + 1, 8, none⟩ = some (.slice oa L cap) := (hb2).cell 8
          have fcb8 := (hb2).frozen 8
          have cb9 : wg.cell? ⟨w.heap.size + 1, 9, none⟩ = some (.string wd) := (hb2).cell 9
          have fcb9 := (hb2).frozen 9
          have cb10 : wg.cell? ⟨w.heap.size + 1, 10, none⟩ = some (.string vl) := (hb2).cell 10
          have fcb10 := (hb2).frozen 10
          have cb11 : wg.cell? ⟨w.heap.size + 1, 11, none⟩ = some (.bool an) := (hb2).cell 11
          have fcb11 := (hb2).frozen 11
          have lcb := (hb2).lt
          clear hb2
          go_wp2_with fail
          ((with_reducible refine (HL0.out _ _ _ _ _ _ _ _ (by repeat (first | with_reducible exact hb1 | (with_reducible refine Below.setCell ?_ ?hq _; case hq => simp) | (with_reducible refine Below.alloc ?_ ?hq _; case hq => simp) | with_reducible refine below_grow ?_ _))).mono ?_); rintro e w' ⟨rfl, hbw⟩)
          obtain ⟨m1, rfl⟩ := grow_mk hbw
          clear hbw
          go_wp2_with fail
          go_ret
          exact ⟨ret_bool rfl, (by repeat (first | with_reducible exact hb1 | (with_reducible refine Below.setCell ?_ ?hq _; case hq => simp) | (with_reducible refine Below.alloc ?_ ?hq _; case hq => simp) | with_reducible refine below_grow ?_ _))⟩

set_option maxRecDepth 20000 in
set_option maxHeartbeats 8000000 in
theorem cleaf5 (h : Nat) (t : Int) (nm : ByteArray) (op : Int) (ex : Ex) (wd vl : ByteArray) (an : Bool) (w : World) (hx : ExIn w h ex) :
    Calls Try.prog 120 #[lv ⟨5, t, nm, op, ex, wd, vl, an⟩] w fun x w' => x = .returned (.bool (leafB ⟨5, t, nm, op, ex, wd, vl, an⟩)) ∧ Below w.heap.size w w' := by
  have hL := clike_zero hx
  have hL0 := clike_zero (zeroX_in w)
  have hM := fun wx hb => cMay_any h ex wx (hx.below h (w' := wx) hb)
  have e0 : zeroE zeroX = true := rfl
  rw [e0] at hL0
  obtain ⟨k', n, d, u, oa, b, o, cap, kids⟩ := ex
  unfold leafB noS
  simp only
  rw [if_neg (by decide)]
  rw [if_neg (by decide)]
  rw [if_neg (by decide)]
  rw [if_neg (by decide)]
  rw [if_pos (by decide)]
  generalize zeroE (.mk k' n d u oa b o cap kids) = Z at *
  generalize mayE 340 (.mk k' n d u oa b o cap kids) = M at *
  unfold zeroX at *
  simp only [lv_mk, zeroLf_lv, xv_mk, List.length_nil] at hL hL0 hM ⊢
  have HL := Lib.hid hL
  have HL0 := Lib.hid hL0
  have HM := Lib.hid hM
  clear hL hL0 hM hx
  generalize kids.length = L at *
  obtain ⟨N, gN⟩ : ∃ b, (nm.toList == []) = b := ⟨_, rfl⟩
  try rw [gN]
  cases N with
  | true =>
    go_enter Try.func120, Try.ntmps120
    go_wp2_with fail
    go_ret
    exact ⟨ret_bool rfl, (by repeat (first | with_reducible exact below_box _ _ | (with_reducible refine Below.setCell ?_ ?hq _; case hq => simp) | (with_reducible refine Below.alloc ?_ ?hq _; case hq => simp) | with_reducible refine below_grow ?_ _))⟩
  | false =>
    go_enter Try.func120, Try.ntmps120
    go_wp2_with fail
    ((with_reducible refine (HL.out _ _ _ _ _ _ _ _ (by repeat (first | with_reducible exact below_box _ _ | (with_reducible refine Below.setCell ?_ ?hq _; case hq => simp) | (with_reducible refine Below.alloc ?_ ?hq _; case hq => simp) | with_reducible refine below_grow ?_ _))).mono ?_); rintro e w' ⟨rfl, hbw⟩)
    obtain ⟨m1, rfl⟩ := grow_mk hbw
    clear hbw
    go_wp2_with fail
    go_ret
    exact ⟨ret_bool rfl, (by repeat (first | with_reducible exact below_box _ _ | (with_reducible refine Below.setCell ?_ ?hq _; case hq => simp) | (with_reducible refine Below.alloc ?_ ?hq _; case hq => simp) | with_reducible refine below_grow ?_ _))⟩

set_option maxRecDepth 20000 in
set_option maxHeartbeats 8000000 in
theorem cleaf6 (h : Nat) (t : Int) (nm : ByteArray) (op : Int) (ex : Ex) (wd vl : ByteArray) (an : Bool) (w : World) (hx : ExIn w h ex) :
    Calls Try.prog 120 #[lv ⟨6, t, nm, op, ex, wd, vl, an⟩] w fun x w' => x = .returned (.bool (leafB ⟨6, t, nm, op, ex, wd, vl, an⟩)) ∧ Below w.heap.size w w' := by
  have hL := clike_zero hx
  have hL0 := clike_zero (zeroX_in w)
  have hM := fun wx hb => cMay_any h ex wx (hx.below h (w' := wx) hb)
  have e0 : zeroE zeroX = true := rfl
  rw [e0] at hL0
  obtain ⟨k', n, d, u, oa, b, o, cap, kids⟩ := ex
  unfold leafB noS
  simp only
  rw [if_neg (by decide)]
  rw [if_neg (by decide)]
  rw [if_neg (by decide)]
  rw [if_neg (by decide)]
  rw [if_neg (by decide)]
  rw [if_pos (by decide)]
  generalize zeroE (.mk k' n d u oa b o cap kids) = Z at *
  generalize mayE 340 (.mk k' n d u oa b o cap kids) = M at *
  unfold zeroX at *
  simp only [lv_mk, zeroLf_lv, xv_mk, List.length_nil] at hL hL0 hM ⊢
  have HL := Lib.hid hL
  have HL0 := Lib.hid hL0
  have HM := Lib.hid hM
  clear hL hL0 hM hx
  generalize kids.length = L at *
  obtain ⟨N, gN⟩ : ∃ b, (nm.toList == []) = b := ⟨_, rfl⟩
  try rw [gN]
  obtain ⟨V, gV⟩ : ∃ b, (vl.toList == []) = b := ⟨_, rfl⟩
  rw [gV]
  cases N with
  | true =>
    go_enter Try.func120, Try.ntmps120
    go_wp2_with fail
    go_ret
    exact ⟨ret_bool rfl, (by repeat (first | with_reducible exact below_box _ _ | (with_reducible refine Below.setCell ?_ ?hq _; case hq => simp) | (with_reducible refine Below.alloc ?_ ?hq _; case hq => simp) | with_reducible refine below_grow ?_ _))⟩
  | false =>
    cases an with
    | false =>
      go_enter Try.func120, Try.ntmps120
      go_wp2_with fail
      ((with_reducible refine (HL.out _ _ _ _ _ _ _ _ (by repeat (first | with_reducible exact below_box _ _ | (with_reducible refine Below.setCell ?_ ?hq _; case hq => simp) | (with_reducible refine Below.alloc ?_ ?hq _; case hq => simp) | with_reducible refine below_grow ?_ _))).mono ?_); rintro e w' ⟨rfl, hbw⟩)
      obtain ⟨m1, rfl⟩ := grow_mk hbw
      clear hbw
      go_wp2_with fail
      go_ret
      exact ⟨ret_bool rfl, (by repeat (first | with_reducible exact below_box _ _ | (with_reducible refine Below.setCell ?_ ?hq _; case hq => simp) | (with_reducible refine Below.alloc ?_ ?hq _; case hq => simp) | with_reducible refine below_grow ?_ _))⟩
    | true =>
      cases V with
      | false =>
        go_enter Try.func120, Try.ntmps120
        go_wp2_with fail
        go_ret
        exact ⟨ret_bool rfl, (by repeat (first | with_reducible exact below_box _ _ | (with_reducible refine Below.setCell ?_ ?hq _; case hq => simp) | (with_reducible refine Below.alloc ?_ ?hq _; case hq => simp) | with_reducible refine below_grow ?_ _))⟩
      | true =>
        go_enter Try.func120, Try.ntmps120
        go_wp2_with fail
        ((with_reducible refine (HL.out _ _ _ _ _ _ _ _ (by repeat (first | with_reducible exact below_box _ _ | (with_reducible refine Below.setCell ?_ ?hq _; case hq => simp) | (with_reducible refine Below.alloc ?_ ?hq _; case hq => simp) | with_reducible refine below_grow ?_ _))).mono ?_); rintro e w' ⟨rfl, hbw⟩)
        obtain ⟨m1, rfl⟩ := grow_mk hbw
        clear hbw
        go_wp2_with fail
        go_ret
        exact ⟨ret_bool rfl, (by repeat (first | with_reducible exact below_box _ _ | (with_reducible refine Below.setCell ?_ ?hq _; case hq => simp) | (with_reducible refine Below.alloc ?_ ?hq _; case hq => simp) | with_reducible refine below_grow ?_ _))⟩

set_option maxRecDepth 20000 in
set_option maxHeartbeats 8000000 in
theorem cleaf7 (h : Nat) (k : Int) (t : Int) (nm : ByteArray) (op : Int) (ex : Ex) (wd vl : ByteArray) (an : Bool) (w : World) (hx : ExIn w h ex) (hk : k < 0 ∨ 6 < k) :
    Calls Try.prog 120 #[lv ⟨k, t, nm, op, ex, wd, vl, an⟩] w fun x w' => x = .returned (.bool (leafB ⟨k, t, nm, op, ex, wd, vl, an⟩)) ∧ Below w.heap.size w w' := by
  have hL := clike_zero hx
  have hL0 := clike_zero (zeroX_in w)
  have hM := fun wx hb => cMay_any h ex wx (hx.below h (w' := wx) hb)
  have e0 : zeroE zeroX = true := rfl
  rw [e0] at hL0
  obtain ⟨k', n, d, u, oa, b, o, cap, kids⟩ := ex
  unfold leafB noS
  simp only
  rw [if_neg (by omega)]; rw [if_neg (by omega)]; rw [if_neg (by omega)]; rw [if_neg (by omega)]; rw [if_neg (by omega)]; rw [if_neg (by omega)]
  generalize zeroE (.mk k' n d u oa b o cap kids) = Z at *
  generalize mayE 340 (.mk k' n d u oa b o cap kids) = M at *
  unfold zeroX at *
  simp only [lv_mk, zeroLf_lv, xv_mk, List.length_nil] at hL hL0 hM ⊢
  have HL := Lib.hid hL
  have HL0 := Lib.hid hL0
  have HM := Lib.hid hM
  clear hL hL0 hM hx
  generalize kids.length = L at *
  obtain ⟨N, gN⟩ : ∃ b, (nm.toList == []) = b := ⟨_, rfl⟩
  try rw [gN]
  have g0 : (k == 0) = false := by simp; omega
  have g1 : (k == 1) = false := by simp; omega
  have g2 : (k == 2) = false := by simp; omega
  have g3 : (k == 3) = false := by simp; omega
  have g4 : (k == 4) = false := by simp; omega
  have g5 : (k == 5) = false := by simp; omega
  have g6 : (k == 6) = false := by simp; omega
  clear hk
  go_enter Try.func120, Try.ntmps120
  go_wp2_with fail
  go_ret
  exact ⟨ret_bool rfl, (by repeat (first | with_reducible exact below_box _ _ | (with_reducible refine Below.setCell ?_ ?hq _; case hq => simp) | (with_reducible refine Below.alloc ?_ ?hq _; case hq => simp) | with_reducible refine below_grow ?_ _))⟩

end Go.Proofs.Ytgjhaanpkfheeaa
