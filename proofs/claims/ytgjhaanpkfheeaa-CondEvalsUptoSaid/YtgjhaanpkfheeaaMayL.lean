/- Which leaves may be: the reference's word. -/
import Derived.Test.YtgjhaanpkfheeaaLeaf
import Derived.Deep.RegionHeld3
namespace Go.Proofs.Ytgjhaanpkfheeaa
set_option linter.unusedVariables false
set_option linter.unusedSimpArgs false
open Go.RowKit

/-- a leaf against one with an empty expression; with the same -/
theorem rlike_zero {h : Nat} {ex : Ex} {w : World} (hx : ExIn w h ex) (k t : Int) (nm : ByteArray) (op : Int) (wd vl : ByteArray) (an : Bool) (K T : Int) (NM : ByteArray) (OP : Int) (WD VL : ByteArray) (AN : Bool) (wx : World) (hb : Below w.heap.size w wx) :
    Calls Try.prog 95 #[lv ⟨k, t, nm, op, ex, wd, vl, an⟩, lv ⟨K, T, NM, OP, zeroX, WD, VL, AN⟩] wx fun x w' => x = .returned (.bool (likeB ⟨k, t, nm, op, ex, wd, vl, an⟩ ⟨K, T, NM, OP, zeroX, WD, VL, AN⟩ (zeroE ex))) ∧ Below wx.heap.size wx w' :=
  rlike_any _ _ _ _ fun wy hy => rsame_zero h ex wy ((hx.below h hb).below h hy)
theorem rlike_self {h : Nat} {ex : Ex} {w : World} (hx : ExIn w h ex) (k t : Int) (nm : ByteArray) (op : Int) (wd vl : ByteArray) (an : Bool) (K T : Int) (NM : ByteArray) (OP : Int) (WD VL : ByteArray) (AN : Bool) (wx : World) (hb : Below w.heap.size w wx) :
    Calls Try.prog 95 #[lv ⟨k, t, nm, op, ex, wd, vl, an⟩, lv ⟨K, T, NM, OP, ex, WD, VL, AN⟩] wx fun x w' => x = .returned (.bool (likeB ⟨k, t, nm, op, ex, wd, vl, an⟩ ⟨K, T, NM, OP, ex, WD, VL, AN⟩ true)) ∧ Below wx.heap.size wx w' :=
  rlike_any _ _ _ _ fun wy hy => rsame_self h ex wy ((hx.below h hb).below h hy)

set_option maxRecDepth 20000 in
set_option maxHeartbeats 8000000 in
theorem rleaf0 (h : Nat) (t : Int) (nm : ByteArray) (op : Int) (ex : Ex) (wd vl : ByteArray) (an : Bool) (w : World) (hx : ExIn w h ex) :
    Calls Try.prog 122 #[lv ⟨0, t, nm, op, ex, wd, vl, an⟩] w fun x w' => x = .returned (.bool (leafB ⟨0, t, nm, op, ex, wd, vl, an⟩)) ∧ Below w.heap.size w w' := by
  have hL := fun wx hb => rlike_zero hx 0 t nm op wd vl an 0 0 (⟨#[]⟩) 0 (⟨#[]⟩) (⟨#[]⟩) false wx hb
  have hM := fun wx hb => rMayE_any h ex wx (hx.below h (w' := wx) hb)
  have HF0 : leafB ⟨0, t, nm, op, ex, wd, vl, an⟩ = likeB ⟨0, t, nm, op, ex, wd, vl, an⟩ ⟨0, 0, ⟨#[]⟩, 0, zeroX, ⟨#[]⟩, ⟨#[]⟩, false⟩ (zeroE ex) := by
    unfold leafB noS likeB zeroLf
    simp (config := { decide := true }) 
  rw [HF0]
  clear HF0
  obtain ⟨k', n, d, u, oa, b, o, cap, kids⟩ := ex
  generalize likeB _ _ _ = q at *
  generalize mayE 340 (.mk k' n d u oa b o cap kids) = M at *
  try unfold zeroX at *
  simp only [lv_mk, xv_mk, List.length_nil] at hL hM ⊢
  have HQ := Lib.hid hL
  have HM := Lib.hid hM
  clear hL hM hx
  generalize kids.length = L at *
  obtain ⟨N, gN⟩ : ∃ b, (nm.toList == []) = b := ⟨_, rfl⟩
  try rw [gN]
  cases q with
  | false =>
    go_enter Try.func122, Try.ntmps122
    go_wp2_with fail
    ((with_reducible refine (HQ.out _ (by repeat (first | with_reducible exact below_box _ _ | (with_reducible refine Below.setCell ?_ ?hq _; case hq => simp) | (with_reducible refine Below.alloc ?_ ?hq _; case hq => simp) | with_reducible refine Below.drew ?_ | with_reducible refine below_grow ?_ _))).mono ?_); rintro e w' ⟨rfl, hbw⟩)
    obtain ⟨m1, rfl⟩ := grow_mk hbw
    clear hbw
    go_wp2_with fail
    go_ret
    exact ⟨ret_bool rfl, (by repeat (first | with_reducible exact below_box _ _ | (with_reducible refine Below.setCell ?_ ?hq _; case hq => simp) | (with_reducible refine Below.alloc ?_ ?hq _; case hq => simp) | with_reducible refine Below.drew ?_ | with_reducible refine below_grow ?_ _))⟩
  | true =>
    go_enter Try.func122, Try.ntmps122
    go_wp2_with fail
    ((with_reducible refine (HQ.out _ (by repeat (first | with_reducible exact below_box _ _ | (with_reducible refine Below.setCell ?_ ?hq _; case hq => simp) | (with_reducible refine Below.alloc ?_ ?hq _; case hq => simp) | with_reducible refine Below.drew ?_ | with_reducible refine below_grow ?_ _))).mono ?_); rintro e w' ⟨rfl, hbw⟩)
    obtain ⟨m1, rfl⟩ := grow_mk hbw
    clear hbw
    go_wp2_with fail
    go_ret
    exact ⟨ret_bool rfl, (by repeat (first | with_reducible exact below_box _ _ | (with_reducible refine Below.setCell ?_ ?hq _; case hq => simp) | (with_reducible refine Below.alloc ?_ ?hq _; case hq => simp) | with_reducible refine Below.drew ?_ | with_reducible refine below_grow ?_ _))⟩

set_option maxRecDepth 20000 in
set_option maxHeartbeats 8000000 in
theorem rleaf1 (h : Nat) (t : Int) (nm : ByteArray) (op : Int) (ex : Ex) (wd vl : ByteArray) (an : Bool) (w : World) (hx : ExIn w h ex) :
    Calls Try.prog 122 #[lv ⟨1, t, nm, op, ex, wd, vl, an⟩] w fun x w' => x = .returned (.bool (leafB ⟨1, t, nm, op, ex, wd, vl, an⟩)) ∧ Below w.heap.size w w' := by
  have hL := fun wx hb => rlike_zero hx 1 t nm op wd vl an 1 t (⟨#[]⟩) 0 (⟨#[]⟩) (⟨#[]⟩) false wx hb
  have hM := fun wx hb => rMayE_any h ex wx (hx.below h (w' := wx) hb)
  have HF0 : leafB ⟨1, t, nm, op, ex, wd, vl, an⟩ = (decide (0 ≤ t) && decide (t ≤ 2) && likeB ⟨1, t, nm, op, ex, wd, vl, an⟩ ⟨1, t, ⟨#[]⟩, 0, zeroX, ⟨#[]⟩, ⟨#[]⟩, false⟩ (zeroE ex)) := by
    unfold leafB noS likeB zeroLf
    simp (config := { decide := true }) 
  rw [HF0]
  clear HF0
  obtain ⟨k', n, d, u, oa, b, o, cap, kids⟩ := ex
  generalize likeB _ _ _ = q at *
  generalize mayE 340 (.mk k' n d u oa b o cap kids) = M at *
  try unfold zeroX at *
  simp only [lv_mk, xv_mk, List.length_nil] at hL hM ⊢
  have HQ := Lib.hid hL
  have HM := Lib.hid hM
  clear hL hM hx
  generalize kids.length = L at *
  obtain ⟨N, gN⟩ : ∃ b, (nm.toList == []) = b := ⟨_, rfl⟩
  try rw [gN]
  obtain ⟨b1, g1⟩ : ∃ b, decide ((0 : Int) ≤ t) = b := ⟨_, rfl⟩
  obtain ⟨b2, g2⟩ : ∃ b, decide (t ≤ (2 : Int)) = b := ⟨_, rfl⟩
  rw [g1, g2]
  cases q with
  | false =>
    go_enter Try.func122, Try.ntmps122
    go_wp2_with fail
    ((with_reducible refine (HQ.out _ (by repeat (first | with_reducible exact below_box _ _ | (with_reducible refine Below.setCell ?_ ?hq _; case hq => simp) | (with_reducible refine Below.alloc ?_ ?hq _; case hq => simp) | with_reducible refine Below.drew ?_ | with_reducible refine below_grow ?_ _))).mono ?_); rintro e w' ⟨rfl, hbw⟩)
    obtain ⟨m1, rfl⟩ := grow_mk hbw
    clear hbw
    go_wp2_with fail
    go_ret
    exact ⟨ret_bool (by simp), (by repeat (first | with_reducible exact below_box _ _ | (with_reducible refine Below.setCell ?_ ?hq _; case hq => simp) | (with_reducible refine Below.alloc ?_ ?hq _; case hq => simp) | with_reducible refine Below.drew ?_ | with_reducible refine below_grow ?_ _))⟩
  | true =>
    cases b1 with
    | false =>
      go_enter Try.func122, Try.ntmps122
      go_wp2_with fail
      ((with_reducible refine (HQ.out _ (by repeat (first | with_reducible exact below_box _ _ | (with_reducible refine Below.setCell ?_ ?hq _; case hq => simp) | (with_reducible refine Below.alloc ?_ ?hq _; case hq => simp) | with_reducible refine Below.drew ?_ | with_reducible refine below_grow ?_ _))).mono ?_); rintro e w' ⟨rfl, hbw⟩)
      obtain ⟨m1, rfl⟩ := grow_mk hbw
      clear hbw
      go_wp2_with fail
      go_ret
      exact ⟨ret_bool rfl, (by repeat (first | with_reducible exact below_box _ _ | (with_reducible refine Below.setCell ?_ ?hq _; case hq => simp) | (with_reducible refine Below.alloc ?_ ?hq _; case hq => simp) | with_reducible refine Below.drew ?_ | with_reducible refine below_grow ?_ _))⟩
    | true =>
      cases b2 with
      | false =>
        go_enter Try.func122, Try.ntmps122
        go_wp2_with fail
        ((with_reducible refine (HQ.out _ (by repeat (first | with_reducible exact below_box _ _ | (with_reducible refine Below.setCell ?_ ?hq _; case hq => simp) | (with_reducible refine Below.alloc ?_ ?hq _; case hq => simp) | with_reducible refine Below.drew ?_ | with_reducible refine below_grow ?_ _))).mono ?_); rintro e w' ⟨rfl, hbw⟩)
        obtain ⟨m1, rfl⟩ := grow_mk hbw
        clear hbw
        go_wp2_with fail
        go_ret
        exact ⟨ret_bool rfl, (by repeat (first | with_reducible exact below_box _ _ | (with_reducible refine Below.setCell ?_ ?hq _; case hq => simp) | (with_reducible refine Below.alloc ?_ ?hq _; case hq => simp) | with_reducible refine Below.drew ?_ | with_reducible refine below_grow ?_ _))⟩
      | true =>
        go_enter Try.func122, Try.ntmps122
        go_wp2_with fail
        ((with_reducible refine (HQ.out _ (by repeat (first | with_reducible exact below_box _ _ | (with_reducible refine Below.setCell ?_ ?hq _; case hq => simp) | (with_reducible refine Below.alloc ?_ ?hq _; case hq => simp) | with_reducible refine Below.drew ?_ | with_reducible refine below_grow ?_ _))).mono ?_); rintro e w' ⟨rfl, hbw⟩)
        obtain ⟨m1, rfl⟩ := grow_mk hbw
        clear hbw
        go_wp2_with fail
        go_ret
        exact ⟨ret_bool rfl, (by repeat (first | with_reducible exact below_box _ _ | (with_reducible refine Below.setCell ?_ ?hq _; case hq => simp) | (with_reducible refine Below.alloc ?_ ?hq _; case hq => simp) | with_reducible refine Below.drew ?_ | with_reducible refine below_grow ?_ _))⟩

set_option maxRecDepth 20000 in
set_option maxHeartbeats 8000000 in
theorem rleaf2 (h : Nat) (t : Int) (nm : ByteArray) (op : Int) (ex : Ex) (wd vl : ByteArray) (an : Bool) (w : World) (hx : ExIn w h ex) :
    Calls Try.prog 122 #[lv ⟨2, t, nm, op, ex, wd, vl, an⟩] w fun x w' => x = .returned (.bool (leafB ⟨2, t, nm, op, ex, wd, vl, an⟩)) ∧ Below w.heap.size w w' := by
  have hL := fun wx hb => rlike_zero hx 2 t nm op wd vl an 2 0 nm 0 (⟨#[]⟩) (⟨#[]⟩) false wx hb
  have hM := fun wx hb => rMayE_any h ex wx (hx.below h (w' := wx) hb)
  have HF0 : leafB ⟨2, t, nm, op, ex, wd, vl, an⟩ = (!(nm.toList == []) && likeB ⟨2, t, nm, op, ex, wd, vl, an⟩ ⟨2, 0, nm, 0, zeroX, ⟨#[]⟩, ⟨#[]⟩, false⟩ (zeroE ex)) := by
    unfold leafB noS likeB zeroLf
    simp (config := { decide := true }) 
  rw [HF0]
  clear HF0
  obtain ⟨k', n, d, u, oa, b, o, cap, kids⟩ := ex
  generalize likeB _ _ _ = q at *
  generalize mayE 340 (.mk k' n d u oa b o cap kids) = M at *
  try unfold zeroX at *
  simp only [lv_mk, xv_mk, List.length_nil] at hL hM ⊢
  have HQ := Lib.hid hL
  have HM := Lib.hid hM
  clear hL hM hx
  generalize kids.length = L at *
  obtain ⟨N, gN⟩ : ∃ b, (nm.toList == []) = b := ⟨_, rfl⟩
  try rw [gN]
  cases q with
  | false =>
    go_enter Try.func122, Try.ntmps122
    go_wp2_with fail
    ((with_reducible refine (HQ.out _ (by repeat (first | with_reducible exact below_box _ _ | (with_reducible refine Below.setCell ?_ ?hq _; case hq => simp) | (with_reducible refine Below.alloc ?_ ?hq _; case hq => simp) | with_reducible refine Below.drew ?_ | with_reducible refine below_grow ?_ _))).mono ?_); rintro e w' ⟨rfl, hbw⟩)
    obtain ⟨m1, rfl⟩ := grow_mk hbw
    clear hbw
    go_wp2_with fail
    go_ret
    exact ⟨ret_bool (by simp), (by repeat (first | with_reducible exact below_box _ _ | (with_reducible refine Below.setCell ?_ ?hq _; case hq => simp) | (with_reducible refine Below.alloc ?_ ?hq _; case hq => simp) | with_reducible refine Below.drew ?_ | with_reducible refine below_grow ?_ _))⟩
  | true =>
    cases N with
    | false =>
      go_enter Try.func122, Try.ntmps122
      go_wp2_with fail
      ((with_reducible refine (HQ.out _ (by repeat (first | with_reducible exact below_box _ _ | (with_reducible refine Below.setCell ?_ ?hq _; case hq => simp) | (with_reducible refine Below.alloc ?_ ?hq _; case hq => simp) | with_reducible refine Below.drew ?_ | with_reducible refine below_grow ?_ _))).mono ?_); rintro e w' ⟨rfl, hbw⟩)
      obtain ⟨m1, rfl⟩ := grow_mk hbw
      clear hbw
      go_wp2_with fail
      go_ret
      exact ⟨ret_bool rfl, (by repeat (first | with_reducible exact below_box _ _ | (with_reducible refine Below.setCell ?_ ?hq _; case hq => simp) | (with_reducible refine Below.alloc ?_ ?hq _; case hq => simp) | with_reducible refine Below.drew ?_ | with_reducible refine below_grow ?_ _))⟩
    | true =>
      go_enter Try.func122, Try.ntmps122
      go_wp2_with fail
      ((with_reducible refine (HQ.out _ (by repeat (first | with_reducible exact below_box _ _ | (with_reducible refine Below.setCell ?_ ?hq _; case hq => simp) | (with_reducible refine Below.alloc ?_ ?hq _; case hq => simp) | with_reducible refine Below.drew ?_ | with_reducible refine below_grow ?_ _))).mono ?_); rintro e w' ⟨rfl, hbw⟩)
      obtain ⟨m1, rfl⟩ := grow_mk hbw
      clear hbw
      go_wp2_with fail
      go_ret
      exact ⟨ret_bool rfl, (by repeat (first | with_reducible exact below_box _ _ | (with_reducible refine Below.setCell ?_ ?hq _; case hq => simp) | (with_reducible refine Below.alloc ?_ ?hq _; case hq => simp) | with_reducible refine Below.drew ?_ | with_reducible refine below_grow ?_ _))⟩

set_option maxRecDepth 20000 in
set_option maxHeartbeats 8000000 in
theorem rleaf3 (h : Nat) (t : Int) (nm : ByteArray) (op : Int) (ex : Ex) (wd vl : ByteArray) (an : Bool) (w : World) (hx : ExIn w h ex) :
    Calls Try.prog 122 #[lv ⟨3, t, nm, op, ex, wd, vl, an⟩] w fun x w' => x = .returned (.bool (leafB ⟨3, t, nm, op, ex, wd, vl, an⟩)) ∧ Below w.heap.size w w' := by
  have hL := fun wx hb => rlike_zero hx 3 t nm op wd vl an 3 0 nm 0 (⟨#[]⟩) (⟨#[]⟩) false wx hb
  have hM := fun wx hb => rMayE_any h ex wx (hx.below h (w' := wx) hb)
  have HF0 : leafB ⟨3, t, nm, op, ex, wd, vl, an⟩ = (!(nm.toList == []) && likeB ⟨3, t, nm, op, ex, wd, vl, an⟩ ⟨3, 0, nm, 0, zeroX, ⟨#[]⟩, ⟨#[]⟩, false⟩ (zeroE ex)) := by
    unfold leafB noS likeB zeroLf
    simp (config := { decide := true }) 
  rw [HF0]
  clear HF0
  obtain ⟨k', n, d, u, oa, b, o, cap, kids⟩ := ex
  generalize likeB _ _ _ = q at *
  generalize mayE 340 (.mk k' n d u oa b o cap kids) = M at *
  try unfold zeroX at *
  simp only [lv_mk, xv_mk, List.length_nil] at hL hM ⊢
  have HQ := Lib.hid hL
  have HM := Lib.hid hM
  clear hL hM hx
  generalize kids.length = L at *
  obtain ⟨N, gN⟩ : ∃ b, (nm.toList == []) = b := ⟨_, rfl⟩
  try rw [gN]
  cases q with
  | false =>
    go_enter Try.func122, Try.ntmps122
    go_wp2_with fail
    ((with_reducible refine (HQ.out _ (by repeat (first | with_reducible exact below_box _ _ | (with_reducible refine Below.setCell ?_ ?hq _; case hq => simp) | (with_reducible refine Below.alloc ?_ ?hq _; case hq => simp) | with_reducible refine Below.drew ?_ | with_reducible refine below_grow ?_ _))).mono ?_); rintro e w' ⟨rfl, hbw⟩)
    obtain ⟨m1, rfl⟩ := grow_mk hbw
    clear hbw
    go_wp2_with fail
    go_ret
    exact ⟨ret_bool (by simp), (by repeat (first | with_reducible exact below_box _ _ | (with_reducible refine Below.setCell ?_ ?hq _; case hq => simp) | (with_reducible refine Below.alloc ?_ ?hq _; case hq => simp) | with_reducible refine Below.drew ?_ | with_reducible refine below_grow ?_ _))⟩
  | true =>
    cases N with
    | false =>
      go_enter Try.func122, Try.ntmps122
      go_wp2_with fail
      ((with_reducible refine (HQ.out _ (by repeat (first | with_reducible exact below_box _ _ | (with_reducible refine Below.setCell ?_ ?hq _; case hq => simp) | (with_reducible refine Below.alloc ?_ ?hq _; case hq => simp) | with_reducible refine Below.drew ?_ | with_reducible refine below_grow ?_ _))).mono ?_); rintro e w' ⟨rfl, hbw⟩)
      obtain ⟨m1, rfl⟩ := grow_mk hbw
      clear hbw
      go_wp2_with fail
      go_ret
      exact ⟨ret_bool rfl, (by repeat (first | with_reducible exact below_box _ _ | (with_reducible refine Below.setCell ?_ ?hq _; case hq => simp) | (with_reducible refine Below.alloc ?_ ?hq _; case hq => simp) | with_reducible refine Below.drew ?_ | with_reducible refine below_grow ?_ _))⟩
    | true =>
      go_enter Try.func122, Try.ntmps122
      go_wp2_with fail
      ((with_reducible refine (HQ.out _ (by repeat (first | with_reducible exact below_box _ _ | (with_reducible refine Below.setCell ?_ ?hq _; case hq => simp) | (with_reducible refine Below.alloc ?_ ?hq _; case hq => simp) | with_reducible refine Below.drew ?_ | with_reducible refine below_grow ?_ _))).mono ?_); rintro e w' ⟨rfl, hbw⟩)
      obtain ⟨m1, rfl⟩ := grow_mk hbw
      clear hbw
      go_wp2_with fail
      go_ret
      exact ⟨ret_bool rfl, (by repeat (first | with_reducible exact below_box _ _ | (with_reducible refine Below.setCell ?_ ?hq _; case hq => simp) | (with_reducible refine Below.alloc ?_ ?hq _; case hq => simp) | with_reducible refine Below.drew ?_ | with_reducible refine below_grow ?_ _))⟩

set_option maxRecDepth 20000 in
set_option maxHeartbeats 8000000 in
theorem rleaf4 (h : Nat) (t : Int) (nm : ByteArray) (op : Int) (ex : Ex) (wd vl : ByteArray) (an : Bool) (w : World) (hx : ExIn w h ex) :
    Calls Try.prog 122 #[lv ⟨4, t, nm, op, ex, wd, vl, an⟩] w fun x w' => x = .returned (.bool (leafB ⟨4, t, nm, op, ex, wd, vl, an⟩)) ∧ Below w.heap.size w w' := by
  have hL := fun wx hb => rlike_self hx 4 t nm op wd vl an 4 0 nm op (⟨#[]⟩) (⟨#[]⟩) false wx hb
  have hM := fun wx hb => rMayE_any h ex wx (hx.below h (w' := wx) hb)
  have HF0 : leafB ⟨4, t, nm, op, ex, wd, vl, an⟩ = (!(nm.toList == []) && decide (1 ≤ op) && decide (op ≤ 5) && mayE 340 ex && likeB ⟨4, t, nm, op, ex, wd, vl, an⟩ ⟨4, 0, nm, op, ex, ⟨#[]⟩, ⟨#[]⟩, false⟩ true) := by
    unfold leafB noS likeB zeroLf
    simp (config := { decide := true }) 
  rw [HF0]
  clear HF0
  obtain ⟨k', n, d, u, oa, b, o, cap, kids⟩ := ex
  generalize likeB _ _ _ = q at *
  generalize mayE 340 (.mk k' n d u oa b o cap kids) = M at *
  try unfold zeroX at *
  simp only [lv_mk, xv_mk, List.length_nil] at hL hM ⊢
  have HQ := Lib.hid hL
  have HM := Lib.hid hM
  clear hL hM hx
  generalize kids.length = L at *
  obtain ⟨N, gN⟩ : ∃ b, (nm.toList == []) = b := ⟨_, rfl⟩
  try rw [gN]
  obtain ⟨b1, g4⟩ : ∃ b, decide ((1 : Int) ≤ op) = b := ⟨_, rfl⟩
  obtain ⟨b2, g5⟩ : ∃ b, decide (op ≤ (5 : Int)) = b := ⟨_, rfl⟩
  rw [g4, g5]
  have g6 : decide (op < 1) = !b1 := by rw [← g4, Bool.eq_iff_iff]; simp
  have g7 : decide (5 < op) = !b2 := by rw [← g5, Bool.eq_iff_iff]; simp
  cases b1 with
  | false =>
    go_enter Try.func122, Try.ntmps122
    go_wp2_with fail
    go_region_held3 (fun w' => w'.cell? ⟨w.heap.size, 2, none⟩ = some (.string nm) ∧ w'.cell? ⟨w.heap.size, 3, none⟩ = some (.int .i64 op) ∧ w'.cell? ⟨w.heap.size, 4, none⟩ = some (.int .i64 k') ∧ w'.cell? ⟨w.heap.size, 5, none⟩ = some (.int .i64 n) ∧ w'.cell? ⟨w.heap.size, 6, none⟩ = some (.int .i64 d) ∧ w'.cell? ⟨w.heap.size, 7, none⟩ = some (.int .i64 u) ∧ w'.cell? ⟨w.heap.size, 8, none⟩ = some (.slice oa L cap)) (go_keep) (fail)
    go_wp2_with fail
    go_ret
    exact ⟨ret_bool (by simp), (by repeat (first | with_reducible exact below_box _ _ | (with_reducible refine Below.setCell ?_ ?hq _; case hq => simp) | (with_reducible refine Below.alloc ?_ ?hq _; case hq => simp) | with_reducible refine Below.drew ?_ | with_reducible refine below_grow ?_ _))⟩
  | true =>
    cases b2 with
    | false =>
      go_enter Try.func122, Try.ntmps122
      go_wp2_with fail
      go_region_held3 (fun w' => w'.cell? ⟨w.heap.size, 2, none⟩ = some (.string nm) ∧ w'.cell? ⟨w.heap.size, 3, none⟩ = some (.int .i64 op) ∧ w'.cell? ⟨w.heap.size, 4, none⟩ = some (.int .i64 k') ∧ w'.cell? ⟨w.heap.size, 5, none⟩ = some (.int .i64 n) ∧ w'.cell? ⟨w.heap.size, 6, none⟩ = some (.int .i64 d) ∧ w'.cell? ⟨w.heap.size, 7, none⟩ = some (.int .i64 u) ∧ w'.cell? ⟨w.heap.size, 8, none⟩ = some (.slice oa L cap)) (go_keep) (fail)
      go_wp2_with fail
      go_ret
      exact ⟨ret_bool (by simp), (by repeat (first | with_reducible exact below_box _ _ | (with_reducible refine Below.setCell ?_ ?hq _; case hq => simp) | (with_reducible refine Below.alloc ?_ ?hq _; case hq => simp) | with_reducible refine Below.drew ?_ | with_reducible refine below_grow ?_ _))⟩
    | true =>
      cases M with
      | false =>
        go_enter Try.func122, Try.ntmps122
        go_wp2_with fail
        go_region_held3 (fun w' => w'.cell? ⟨w.heap.size, 2, none⟩ = some (.string nm) ∧ w'.cell? ⟨w.heap.size, 3, none⟩ = some (.int .i64 op) ∧ w'.cell? ⟨w.heap.size, 4, none⟩ = some (.int .i64 k') ∧ w'.cell? ⟨w.heap.size, 5, none⟩ = some (.int .i64 n) ∧ w'.cell? ⟨w.heap.size, 6, none⟩ = some (.int .i64 d) ∧ w'.cell? ⟨w.heap.size, 7, none⟩ = some (.int .i64 u) ∧ w'.cell? ⟨w.heap.size, 8, none⟩ = some (.slice oa L cap)) (go_keep) (fail)
        go_wp2_with fail
        ((with_reducible refine (HM.out _ (by repeat (first | with_reducible exact below_box _ _ | (with_reducible refine Below.setCell ?_ ?hq _; case hq => simp) | (with_reducible refine Below.alloc ?_ ?hq _; case hq => simp) | with_reducible refine Below.drew ?_ | with_reducible refine below_grow ?_ _))).mono ?_); rintro e w' ⟨rfl, hbw⟩)
        obtain ⟨m0, rfl⟩ := grow_mk hbw
        clear hbw
        go_wp2_with fail
        go_ret
        exact ⟨ret_bool (by simp), (by repeat (first | with_reducible exact below_box _ _ | (with_reducible refine Below.setCell ?_ ?hq _; case hq => simp) | (with_reducible refine Below.alloc ?_ ?hq _; case hq => simp) | with_reducible refine Below.drew ?_ | with_reducible refine below_grow ?_ _))⟩
      | true =>
        cases q with
        | false =>
          go_enter Try.func122, Try.ntmps122
          go_wp2_with fail
          go_region_held3 (fun w' => w'.cell? ⟨w.heap.size, 2, none⟩ = some (.string nm) ∧ w'.cell? ⟨w.heap.size, 3, none⟩ = some (.int .i64 op) ∧ w'.cell? ⟨w.heap.size, 4, none⟩ = some (.int .i64 k') ∧ w'.cell? ⟨w.heap.size, 5, none⟩ = some (.int .i64 n) ∧ w'.cell? ⟨w.heap.size, 6, none⟩ = some (.int .i64 d) ∧ w'.cell? ⟨w.heap.size, 7, none⟩ = some (.int .i64 u) ∧ w'.cell? ⟨w.heap.size, 8, none⟩ = some (.slice oa L cap)) (go_keep) (fail)
          go_wp2_with fail
          ((with_reducible refine (HM.out _ (by repeat (first | with_reducible exact below_box _ _ | (with_reducible refine Below.setCell ?_ ?hq _; case hq => simp) | (with_reducible refine Below.alloc ?_ ?hq _; case hq => simp) | with_reducible refine Below.drew ?_ | with_reducible refine below_grow ?_ _))).mono ?_); rintro e w' ⟨rfl, hbw⟩)
          obtain ⟨m0, rfl⟩ := grow_mk hbw
          clear hbw
          go_wp2_with fail
          ((with_reducible refine (HQ.out _ (by repeat (first | with_reducible exact below_box _ _ | (with_reducible refine Below.setCell ?_ ?hq _; case hq => simp) | (with_reducible refine Below.alloc ?_ ?hq _; case hq => simp) | with_reducible refine Below.drew ?_ | with_reducible refine below_grow ?_ _))).mono ?_); rintro e w' ⟨rfl, hbw⟩)
          obtain ⟨m1, rfl⟩ := grow_mk hbw
          clear hbw
          go_wp2_with fail
          go_ret
          exact ⟨ret_bool (by simp), (by repeat (first | with_reducible exact below_box _ _ | (with_reducible refine Below.setCell ?_ ?hq _; case hq => simp) | (with_reducible refine Below.alloc ?_ ?hq _; case hq => simp) | with_reducible refine Below.drew ?_ | with_reducible refine below_grow ?_ _))⟩
        | true =>
          cases N with
          | false =>
            go_enter Try.func122, Try.ntmps122
            go_wp2_with fail
            go_region_held3 (fun w' => w'.cell? ⟨w.heap.size, 2, none⟩ = some (.string nm) ∧ w'.cell? ⟨w.heap.size, 3, none⟩ = some (.int .i64 op) ∧ w'.cell? ⟨w.heap.size, 4, none⟩ = some (.int .i64 k') ∧ w'.cell? ⟨w.heap.size, 5, none⟩ = some (.int .i64 n) ∧ w'.cell? ⟨w.heap.size, 6, none⟩ = some (.int .i64 d) ∧ w'.cell? ⟨w.heap.size, 7, none⟩ = some (.int .i64 u) ∧ w'.cell? ⟨w.heap.size, 8, none⟩ = some (.slice oa L cap)) (go_keep) (fail)
            go_wp2_with fail
            ((with_reducible refine (HM.out _ (by repeat (first | with_reducible exact below_box _ _ | (with_reducible refine Below.setCell ?_ ?hq _; case hq => simp) | (with_reducible refine Below.alloc ?_ ?hq _; case hq => simp) | with_reducible refine Below.drew ?_ | with_reducible refine below_grow ?_ _))).mono ?_); rintro e w' ⟨rfl, hbw⟩)
            obtain ⟨m0, rfl⟩ := grow_mk hbw
            clear hbw
            go_wp2_with fail
            ((with_reducible refine (HQ.out _ (by repeat (first | with_reducible exact below_box _ _ | (with_reducible refine Below.setCell ?_ ?hq _; case hq => simp) | (with_reducible refine Below.alloc ?_ ?hq _; case hq => simp) | with_reducible refine Below.drew ?_ | with_reducible refine below_grow ?_ _))).mono ?_); rintro e w' ⟨rfl, hbw⟩)
            obtain ⟨m1, rfl⟩ := grow_mk hbw
            clear hbw
            go_wp2_with fail
            go_ret
            exact ⟨ret_bool rfl, (by repeat (first | with_reducible exact below_box _ _ | (with_reducible refine Below.setCell ?_ ?hq _; case hq => simp) | (with_reducible refine Below.alloc ?_ ?hq _; case hq => simp) | with_reducible refine Below.drew ?_ | with_reducible refine below_grow ?_ _))⟩
          | true =>
            go_enter Try.func122, Try.ntmps122
            go_wp2_with fail
            go_region_held3 (fun w' => w'.cell? ⟨w.heap.size, 2, none⟩ = some (.string nm) ∧ w'.cell? ⟨w.heap.size, 3, none⟩ = some (.int .i64 op) ∧ w'.cell? ⟨w.heap.size, 4, none⟩ = some (.int .i64 k') ∧ w'.cell? ⟨w.heap.size, 5, none⟩ = some (.int .i64 n) ∧ w'.cell? ⟨w.heap.size, 6, none⟩ = some (.int .i64 d) ∧ w'.cell? ⟨w.heap.size, 7, none⟩ = some (.int .i64 u) ∧ w'.cell? ⟨w.heap.size, 8, none⟩ = some (.slice oa L cap)) (go_keep) (fail)
            go_wp2_with fail
            ((with_reducible refine (HM.out _ (by repeat (first | with_reducible exact below_box _ _ | (with_reducible refine Below.setCell ?_ ?hq _; case hq => simp) | (with_reducible refine Below.alloc ?_ ?hq _; case hq => simp) | with_reducible refine Below.drew ?_ | with_reducible refine below_grow ?_ _))).mono ?_); rintro e w' ⟨rfl, hbw⟩)
            obtain ⟨m0, rfl⟩ := grow_mk hbw
            clear hbw
            go_wp2_with fail
            ((with_reducible refine (HQ.out _ (by repeat (first | with_reducible exact below_box _ _ | (with_reducible refine Below.setCell ?_ ?hq _; case hq => simp) | (with_reducible refine Below.alloc ?_ ?hq _; case hq => simp) | with_reducible refine Below.drew ?_ | with_reducible refine below_grow ?_ _))).mono ?_); rintro e w' ⟨rfl, hbw⟩)
            obtain ⟨m1, rfl⟩ := grow_mk hbw
            clear hbw
            go_wp2_with fail
            go_ret
            exact ⟨ret_bool rfl, (by repeat (first | with_reducible exact below_box _ _ | (with_reducible refine Below.setCell ?_ ?hq _; case hq => simp) | (with_reducible refine Below.alloc ?_ ?hq _; case hq => simp) | with_reducible refine Below.drew ?_ | with_reducible refine below_grow ?_ _))⟩

set_option maxRecDepth 20000 in
set_option maxHeartbeats 8000000 in
theorem rleaf5 (h : Nat) (t : Int) (nm : ByteArray) (op : Int) (ex : Ex) (wd vl : ByteArray) (an : Bool) (w : World) (hx : ExIn w h ex) :
    Calls Try.prog 122 #[lv ⟨5, t, nm, op, ex, wd, vl, an⟩] w fun x w' => x = .returned (.bool (leafB ⟨5, t, nm, op, ex, wd, vl, an⟩)) ∧ Below w.heap.size w w' := by
  have hL := fun wx hb => rlike_zero hx 5 t nm op wd vl an 5 0 nm 0 wd (⟨#[]⟩) false wx hb
  have hM := fun wx hb => rMayE_any h ex wx (hx.below h (w' := wx) hb)
  have HF0 : leafB ⟨5, t, nm, op, ex, wd, vl, an⟩ = (!(nm.toList == []) && likeB ⟨5, t, nm, op, ex, wd, vl, an⟩ ⟨5, 0, nm, 0, zeroX, wd, ⟨#[]⟩, false⟩ (zeroE ex)) := by
    unfold leafB noS likeB zeroLf
    simp (config := { decide := true }) 
  rw [HF0]
  clear HF0
  obtain ⟨k', n, d, u, oa, b, o, cap, kids⟩ := ex
  generalize likeB _ _ _ = q at *
  generalize mayE 340 (.mk k' n d u oa b o cap kids) = M at *
  try unfold zeroX at *
  simp only [lv_mk, xv_mk, List.length_nil] at hL hM ⊢
  have HQ := Lib.hid hL
  have HM := Lib.hid hM
  clear hL hM hx
  generalize kids.length = L at *
  obtain ⟨N, gN⟩ : ∃ b, (nm.toList == []) = b := ⟨_, rfl⟩
  try rw [gN]
  cases q with
  | false =>
    go_enter Try.func122, Try.ntmps122
    go_wp2_with fail
    go_region_held3 (fun w' => w'.cell? ⟨w.heap.size, 2, none⟩ = some (.string nm) ∧ w'.cell? ⟨w.heap.size, 9, none⟩ = some (.string wd)) (go_keep) (fail)
    go_wp2_with fail
    ((with_reducible refine (HQ.out _ (by repeat (first | with_reducible exact below_box _ _ | (with_reducible refine Below.setCell ?_ ?hq _; case hq => simp) | (with_reducible refine Below.alloc ?_ ?hq _; case hq => simp) | with_reducible refine Below.drew ?_ | with_reducible refine below_grow ?_ _))).mono ?_); rintro e w' ⟨rfl, hbw⟩)
    obtain ⟨m1, rfl⟩ := grow_mk hbw
    clear hbw
    go_wp2_with fail
    go_ret
    exact ⟨ret_bool (by simp), (by repeat (first | with_reducible exact below_box _ _ | (with_reducible refine Below.setCell ?_ ?hq _; case hq => simp) | (with_reducible refine Below.alloc ?_ ?hq _; case hq => simp) | with_reducible refine Below.drew ?_ | with_reducible refine below_grow ?_ _))⟩
  | true =>
    cases N with
    | false =>
      go_enter Try.func122, Try.ntmps122
      go_wp2_with fail
      go_region_held3 (fun w' => w'.cell? ⟨w.heap.size, 2, none⟩ = some (.string nm) ∧ w'.cell? ⟨w.heap.size, 9, none⟩ = some (.string wd)) (go_keep) (fail)
      go_wp2_with fail
      ((with_reducible refine (HQ.out _ (by repeat (first | with_reducible exact below_box _ _ | (with_reducible refine Below.setCell ?_ ?hq _; case hq => simp) | (with_reducible refine Below.alloc ?_ ?hq _; case hq => simp) | with_reducible refine Below.drew ?_ | with_reducible refine below_grow ?_ _))).mono ?_); rintro e w' ⟨rfl, hbw⟩)
      obtain ⟨m1, rfl⟩ := grow_mk hbw
      clear hbw
      go_wp2_with fail
      go_ret
      exact ⟨ret_bool rfl, (by repeat (first | with_reducible exact below_box _ _ | (with_reducible refine Below.setCell ?_ ?hq _; case hq => simp) | (with_reducible refine Below.alloc ?_ ?hq _; case hq => simp) | with_reducible refine Below.drew ?_ | with_reducible refine below_grow ?_ _))⟩
    | true =>
      go_enter Try.func122, Try.ntmps122
      go_wp2_with fail
      go_region_held3 (fun w' => w'.cell? ⟨w.heap.size, 2, none⟩ = some (.string nm) ∧ w'.cell? ⟨w.heap.size, 9, none⟩ = some (.string wd)) (go_keep) (fail)
      go_wp2_with fail
      ((with_reducible refine (HQ.out _ (by repeat (first | with_reducible exact below_box _ _ | (with_reducible refine Below.setCell ?_ ?hq _; case hq => simp) | (with_reducible refine Below.alloc ?_ ?hq _; case hq => simp) | with_reducible refine Below.drew ?_ | with_reducible refine below_grow ?_ _))).mono ?_); rintro e w' ⟨rfl, hbw⟩)
      obtain ⟨m1, rfl⟩ := grow_mk hbw
      clear hbw
      go_wp2_with fail
      go_ret
      exact ⟨ret_bool rfl, (by repeat (first | with_reducible exact below_box _ _ | (with_reducible refine Below.setCell ?_ ?hq _; case hq => simp) | (with_reducible refine Below.alloc ?_ ?hq _; case hq => simp) | with_reducible refine Below.drew ?_ | with_reducible refine below_grow ?_ _))⟩

set_option maxRecDepth 20000 in
set_option maxHeartbeats 8000000 in
theorem rleaf6 (h : Nat) (t : Int) (nm : ByteArray) (op : Int) (ex : Ex) (wd vl : ByteArray) (an : Bool) (w : World) (hx : ExIn w h ex) :
    Calls Try.prog 122 #[lv ⟨6, t, nm, op, ex, wd, vl, an⟩] w fun x w' => x = .returned (.bool (leafB ⟨6, t, nm, op, ex, wd, vl, an⟩)) ∧ Below w.heap.size w w' := by
  have hL := fun wx hb => rlike_zero hx 6 t nm op wd vl an 6 0 nm 0 (⟨#[]⟩) vl an wx hb
  have hM := fun wx hb => rMayE_any h ex wx (hx.below h (w' := wx) hb)
  have HF0 : leafB ⟨6, t, nm, op, ex, wd, vl, an⟩ = (!(nm.toList == []) && (!an || vl.toList == []) && likeB ⟨6, t, nm, op, ex, wd, vl, an⟩ ⟨6, 0, nm, 0, zeroX, ⟨#[]⟩, vl, an⟩ (zeroE ex)) := by
    unfold leafB noS likeB zeroLf
    simp (config := { decide := true }) 
  rw [HF0]
  clear HF0
  obtain ⟨k', n, d, u, oa, b, o, cap, kids⟩ := ex
  generalize likeB _ _ _ = q at *
  generalize mayE 340 (.mk k' n d u oa b o cap kids) = M at *
  try unfold zeroX at *
  simp only [lv_mk, xv_mk, List.length_nil] at hL hM ⊢
  have HQ := Lib.hid hL
  have HM := Lib.hid hM
  clear hL hM hx
  generalize kids.length = L at *
  obtain ⟨N, gN⟩ : ∃ b, (nm.toList == []) = b := ⟨_, rfl⟩
  try rw [gN]
  obtain ⟨V, gV⟩ : ∃ b, (vl.toList == []) = b := ⟨_, rfl⟩
  rw [gV]
  cases an with
  | false =>
    cases q with
    | false =>
      go_enter Try.func122, Try.ntmps122
      go_wp2_with fail
      go_region_held3 (fun w' => w'.cell? ⟨w.heap.size, 2, none⟩ = some (.string nm) ∧ w'.cell? ⟨w.heap.size, 10, none⟩ = some (.string vl) ∧ w'.cell? ⟨w.heap.size, 11, none⟩ = some (.bool false)) (go_keep) (fail)
      go_wp2_with fail
      ((with_reducible refine (HQ.out _ (by repeat (first | with_reducible exact below_box _ _ | (with_reducible refine Below.setCell ?_ ?hq _; case hq => simp) | (with_reducible refine Below.alloc ?_ ?hq _; case hq => simp) | with_reducible refine Below.drew ?_ | with_reducible refine below_grow ?_ _))).mono ?_); rintro e w' ⟨rfl, hbw⟩)
      obtain ⟨m1, rfl⟩ := grow_mk hbw
      clear hbw
      go_wp2_with fail
      go_ret
      exact ⟨ret_bool (by simp), (by repeat (first | with_reducible exact below_box _ _ | (with_reducible refine Below.setCell ?_ ?hq _; case hq => simp) | (with_reducible refine Below.alloc ?_ ?hq _; case hq => simp) | with_reducible refine Below.drew ?_ | with_reducible refine below_grow ?_ _))⟩
    | true =>
      cases N with
      | false =>
        go_enter Try.func122, Try.ntmps122
        go_wp2_with fail
        go_region_held3 (fun w' => w'.cell? ⟨w.heap.size, 2, none⟩ = some (.string nm) ∧ w'.cell? ⟨w.heap.size, 10, none⟩ = some (.string vl) ∧ w'.cell? ⟨w.heap.size, 11, none⟩ = some (.bool false)) (go_keep) (fail)
        go_wp2_with fail
        ((with_reducible refine (HQ.out _ (by repeat (first | with_reducible exact below_box _ _ | (with_reducible refine Below.setCell ?_ ?hq _; case hq => simp) | (with_reducible refine Below.alloc ?_ ?hq _; case hq => simp) | with_reducible refine Below.drew ?_ | with_reducible refine below_grow ?_ _))).mono ?_); rintro e w' ⟨rfl, hbw⟩)
        obtain ⟨m1, rfl⟩ := grow_mk hbw
        clear hbw
        go_wp2_with fail
        go_ret
        exact ⟨ret_bool rfl, (by repeat (first | with_reducible exact below_box _ _ | (with_reducible refine Below.setCell ?_ ?hq _; case hq => simp) | (with_reducible refine Below.alloc ?_ ?hq _; case hq => simp) | with_reducible refine Below.drew ?_ | with_reducible refine below_grow ?_ _))⟩
      | true =>
        go_enter Try.func122, Try.ntmps122
        go_wp2_with fail
        go_region_held3 (fun w' => w'.cell? ⟨w.heap.size, 2, none⟩ = some (.string nm) ∧ w'.cell? ⟨w.heap.size, 10, none⟩ = some (.string vl) ∧ w'.cell? ⟨w.heap.size, 11, none⟩ = some (.bool false)) (go_keep) (fail)
        go_wp2_with fail
        ((with_reducible refine (HQ.out _ (by repeat (first | with_reducible exact below_box _ _ | (with_reducible refine Below.setCell ?_ ?hq _; case hq => simp) | (with_reducible refine Below.alloc ?_ ?hq _; case hq => simp) | with_reducible refine Below.drew ?_ | with_reducible refine below_grow ?_ _))).mono ?_); rintro e w' ⟨rfl, hbw⟩)
        obtain ⟨m1, rfl⟩ := grow_mk hbw
        clear hbw
        go_wp2_with fail
        go_ret
        exact ⟨ret_bool rfl, (by repeat (first | with_reducible exact below_box _ _ | (with_reducible refine Below.setCell ?_ ?hq _; case hq => simp) | (with_reducible refine Below.alloc ?_ ?hq _; case hq => simp) | with_reducible refine Below.drew ?_ | with_reducible refine below_grow ?_ _))⟩
  | true =>
    cases V with
    | false =>
      go_enter Try.func122, Try.ntmps122
      go_wp2_with fail
      go_region_held3 (fun w' => w'.cell? ⟨w.heap.size, 2, none⟩ = some (.string nm) ∧ w'.cell? ⟨w.heap.size, 10, none⟩ = some (.string vl) ∧ w'.cell? ⟨w.heap.size, 11, none⟩ = some (.bool true)) (go_keep) (fail)
      go_wp2_with fail
      go_ret
      exact ⟨ret_bool (by simp), (by repeat (first | with_reducible exact below_box _ _ | (with_reducible refine Below.setCell ?_ ?hq _; case hq => simp) | (with_reducible refine Below.alloc ?_ ?hq _; case hq => simp) | with_reducible refine Below.drew ?_ | with_reducible refine below_grow ?_ _))⟩
    | true =>
      cases q with
      | false =>
        go_enter Try.func122, Try.ntmps122
        go_wp2_with fail
        go_region_held3 (fun w' => w'.cell? ⟨w.heap.size, 2, none⟩ = some (.string nm) ∧ w'.cell? ⟨w.heap.size, 10, none⟩ = some (.string vl) ∧ w'.cell? ⟨w.heap.size, 11, none⟩ = some (.bool true)) (go_keep) (fail)
        go_wp2_with fail
        ((with_reducible refine (HQ.out _ (by repeat (first | with_reducible exact below_box _ _ | (with_reducible refine Below.setCell ?_ ?hq _; case hq => simp) | (with_reducible refine Below.alloc ?_ ?hq _; case hq => simp) | with_reducible refine Below.drew ?_ | with_reducible refine below_grow ?_ _))).mono ?_); rintro e w' ⟨rfl, hbw⟩)
        obtain ⟨m1, rfl⟩ := grow_mk hbw
        clear hbw
        go_wp2_with fail
        go_ret
        exact ⟨ret_bool (by simp), (by repeat (first | with_reducible exact below_box _ _ | (with_reducible refine Below.setCell ?_ ?hq _; case hq => simp) | (with_reducible refine Below.alloc ?_ ?hq _; case hq => simp) | with_reducible refine Below.drew ?_ | with_reducible refine below_grow ?_ _))⟩
      | true =>
        cases N with
        | false =>
          go_enter Try.func122, Try.ntmps122
          go_wp2_with fail
          go_region_held3 (fun w' => w'.cell? ⟨w.heap.size, 2, none⟩ = some (.string nm) ∧ w'.cell? ⟨w.heap.size, 10, none⟩ = some (.string vl) ∧ w'.cell? ⟨w.heap.size, 11, none⟩ = some (.bool true)) (go_keep) (fail)
          go_wp2_with fail
          ((with_reducible refine (HQ.out _ (by repeat (first | with_reducible exact below_box _ _ | (with_reducible refine Below.setCell ?_ ?hq _; case hq => simp) | (with_reducible refine Below.alloc ?_ ?hq _; case hq => simp) | with_reducible refine Below.drew ?_ | with_reducible refine below_grow ?_ _))).mono ?_); rintro e w' ⟨rfl, hbw⟩)
          obtain ⟨m1, rfl⟩ := grow_mk hbw
          clear hbw
          go_wp2_with fail
          go_ret
          exact ⟨ret_bool rfl, (by repeat (first | with_reducible exact below_box _ _ | (with_reducible refine Below.setCell ?_ ?hq _; case hq => simp) | (with_reducible refine Below.alloc ?_ ?hq _; case hq => simp) | with_reducible refine Below.drew ?_ | with_reducible refine below_grow ?_ _))⟩
        | true =>
          go_enter Try.func122, Try.ntmps122
          go_wp2_with fail
          go_region_held3 (fun w' => w'.cell? ⟨w.heap.size, 2, none⟩ = some (.string nm) ∧ w'.cell? ⟨w.heap.size, 10, none⟩ = some (.string vl) ∧ w'.cell? ⟨w.heap.size, 11, none⟩ = some (.bool true)) (go_keep) (fail)
          go_wp2_with fail
          ((with_reducible refine (HQ.out _ (by repeat (first | with_reducible exact below_box _ _ | (with_reducible refine Below.setCell ?_ ?hq _; case hq => simp) | (with_reducible refine Below.alloc ?_ ?hq _; case hq => simp) | with_reducible refine Below.drew ?_ | with_reducible refine below_grow ?_ _))).mono ?_); rintro e w' ⟨rfl, hbw⟩)
          obtain ⟨m1, rfl⟩ := grow_mk hbw
          clear hbw
          go_wp2_with fail
          go_ret
          exact ⟨ret_bool rfl, (by repeat (first | with_reducible exact below_box _ _ | (with_reducible refine Below.setCell ?_ ?hq _; case hq => simp) | (with_reducible refine Below.alloc ?_ ?hq _; case hq => simp) | with_reducible refine Below.drew ?_ | with_reducible refine below_grow ?_ _))⟩

set_option maxRecDepth 20000 in
set_option maxHeartbeats 8000000 in
theorem rleaf7 (h : Nat) (k t : Int) (nm : ByteArray) (op : Int) (ex : Ex) (wd vl : ByteArray) (an : Bool) (w : World) (hk : k < 0 ∨ 6 < k) :
    Calls Try.prog 122 #[lv ⟨k, t, nm, op, ex, wd, vl, an⟩] w fun x w' => x = .returned (.bool (leafB ⟨k, t, nm, op, ex, wd, vl, an⟩)) ∧ Below w.heap.size w w' := by
  have HF0 : leafB ⟨k, t, nm, op, ex, wd, vl, an⟩ = false := by
    unfold leafB
    simp only
    rw [if_neg (by omega), if_neg (by omega), if_neg (by omega), if_neg (by omega), if_neg (by omega), if_neg (by omega)]
  rw [HF0]
  clear HF0
  obtain ⟨k', n, d, u, oa, b, o, cap, kids⟩ := ex
  simp only [lv_mk]
  generalize kids.length = L at *
  have g0 : (k == 0) = false := by simp; omega
  have g1 : (k == 1) = false := by simp; omega
  have g2 : (k == 2) = false := by simp; omega
  have g3 : (k == 3) = false := by simp; omega
  have g4 : (k == 4) = false := by simp; omega
  have g5 : (k == 5) = false := by simp; omega
  have g6 : (k == 6) = false := by simp; omega
  clear hk
  go_enter Try.func122, Try.ntmps122
  go_wp2_with fail
  go_ret
  exact ⟨ret_bool rfl, (by repeat (first | with_reducible exact below_box _ _ | (with_reducible refine Below.setCell ?_ ?hq _; case hq => simp) | (with_reducible refine Below.alloc ?_ ?hq _; case hq => simp) | with_reducible refine Below.drew ?_ | with_reducible refine below_grow ?_ _))⟩

end Go.Proofs.Ytgjhaanpkfheeaa
