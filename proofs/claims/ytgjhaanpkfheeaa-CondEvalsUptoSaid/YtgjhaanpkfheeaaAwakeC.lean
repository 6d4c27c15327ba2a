/- And, or of numbers laid anew; what a condition that every program must know comes to. -/
import Derived.Test.YtgjhaanpkfheeaaAwakeA
namespace Go.Proofs.Ytgjhaanpkfheeaa
set_option linter.unusedVariables false
set_option linter.unusedSimpArgs false
open Go.RowKit

/-- and, or of two and of three -/
def aF2 (x y : Int) : Int := andG 2 [x, y]
def oF2 (x y : Int) : Int := orG 0 [x, y]
def aF3 (x y z : Int) : Int := andG 2 [x, y, z]
def oF3 (x y z : Int) : Int := orG 0 [x, y, z]
def aF1 (x : Int) : Int := andG 2 [x]
def nF (x : Int) : Int := 2 - tr x

/-- it fits into 64 bits -/
def In64 (x : Int) : Prop := -9223372036854775808 ≤ x ∧ x ≤ 9223372036854775807

theorem ints_new (W : World) (t : TypeId) (l : List Int) (h64 : ∀ x ∈ l, In64 x) (hl : l.length ≤ maxLen) : Ints (W.alloc (.cells (l.map fun x => Value.int .i64 x).toArray t)) (some ⟨W.heap.size, 0, none⟩) l.length l.length W.heap.size 0 l := by
  have hb := Blk.new W t (l.map fun x => Value.int .i64 x).toArray
  refine ⟨rfl, Nat.le_refl _, hl, fun _ => rfl, fun _ => by simp, fun i x hx => ?_, fun i x hx => h64 x (List.mem_of_getElem? hx)⟩
  have := hb.cell i
  simp only [List.getElem?_toArray, List.getElem?_map, hx, Option.map_some, Nat.zero_add] at this ⊢
  exact this

section
variable (W : World) (t : TypeId) (k : Nat) (hk : W.heap.size = k) {x y z : Int} (hx : In64 x) (hy : In64 y) (hz : In64 z)
include hk hx
theorem and1_any : Calls Try.prog 36 #[.slice (some ⟨k, 0, none⟩) 1 1] (W.alloc (.cells #[.int .i64 x] t)) fun e w' => e = .returned (.int .i64 (aF1 x)) ∧ Below (W.alloc (.cells #[.int .i64 x] t)).heap.size (W.alloc (.cells #[.int .i64 x] t)) w' := by
  subst hk; exact (and_any _ _ _ _ _ [x] _ (ints_new W t [x] (by simp [hx]) (by show 1 ≤ maxLen; decide))).mono fun _ _ ⟨h1, h2⟩ => ⟨h1, h2 ▸ Below.refl _ _⟩
include hy
theorem and2_any : Calls Try.prog 36 #[.slice (some ⟨k, 0, none⟩) 2 2] (W.alloc (.cells #[.int .i64 x, .int .i64 y] t)) fun e w' => e = .returned (.int .i64 (aF2 x y)) ∧ Below (W.alloc (.cells #[.int .i64 x, .int .i64 y] t)).heap.size (W.alloc (.cells #[.int .i64 x, .int .i64 y] t)) w' := by
  subst hk; exact (and_any _ _ _ _ _ [x, y] _ (ints_new W t [x, y] (by simp [hx, hy]) (by show 2 ≤ maxLen; decide))).mono fun _ _ ⟨h1, h2⟩ => ⟨h1, h2 ▸ Below.refl _ _⟩
theorem or2_any : Calls Try.prog 38 #[.slice (some ⟨k, 0, none⟩) 2 2] (W.alloc (.cells #[.int .i64 x, .int .i64 y] t)) fun e w' => e = .returned (.int .i64 (oF2 x y)) ∧ Below (W.alloc (.cells #[.int .i64 x, .int .i64 y] t)).heap.size (W.alloc (.cells #[.int .i64 x, .int .i64 y] t)) w' := by
  subst hk; exact (or_any _ _ _ _ _ [x, y] _ (ints_new W t [x, y] (by simp [hx, hy]) (by show 2 ≤ maxLen; decide))).mono fun _ _ ⟨h1, h2⟩ => ⟨h1, h2 ▸ Below.refl _ _⟩
include hz
theorem and3_any : Calls Try.prog 36 #[.slice (some ⟨k, 0, none⟩) 3 3] (W.alloc (.cells #[.int .i64 x, .int .i64 y, .int .i64 z] t)) fun e w' => e = .returned (.int .i64 (aF3 x y z)) ∧ Below (W.alloc (.cells #[.int .i64 x, .int .i64 y, .int .i64 z] t)).heap.size (W.alloc (.cells #[.int .i64 x, .int .i64 y, .int .i64 z] t)) w' := by
  subst hk; exact (and_any _ _ _ _ _ [x, y, z] _ (ints_new W t [x, y, z] (by simp [hx, hy, hz]) (by show 3 ≤ maxLen; decide))).mono fun _ _ ⟨h1, h2⟩ => ⟨h1, h2 ▸ Below.refl _ _⟩
theorem or3_any : Calls Try.prog 38 #[.slice (some ⟨k, 0, none⟩) 3 3] (W.alloc (.cells #[.int .i64 x, .int .i64 y, .int .i64 z] t)) fun e w' => e = .returned (.int .i64 (oF3 x y z)) ∧ Below (W.alloc (.cells #[.int .i64 x, .int .i64 y, .int .i64 z] t)).heap.size (W.alloc (.cells #[.int .i64 x, .int .i64 y, .int .i64 z] t)) w' := by
  subst hk; exact (or_any _ _ _ _ _ [x, y, z] _ (ints_new W t [x, y, z] (by simp [hx, hy, hz]) (by show 3 ≤ maxLen; decide))).mono fun _ _ ⟨h1, h2⟩ => ⟨h1, h2 ▸ Below.refl _ _⟩
end

theorem in64_lit {x : Int} (h : decide (-9223372036854775808 ≤ x ∧ x ≤ 9223372036854775807) = true) : In64 x := by simpa [In64] using h

set_option maxHeartbeats 2000000 in
theorem awakeC_any (w : World) : Calls Try.prog 42 #[] w fun e w' => e = .returned (.bool true) ∧ Below w.heap.size w w' := by
  have HA := Lib.hid (fun W k h => and2_any W 3 k h (x := 2) (y := 1) (in64_lit (by decide)) (in64_lit (by decide)))
  have HO := Lib.hid (fun W k h => or2_any W 3 k h (x := 0) (y := 2) (in64_lit (by decide)) (in64_lit (by decide)))
  rw [show aF2 2 1 = 1 by decide] at HA
  rw [show oF2 0 2 = 2 by decide] at HO
  have HM := Lib.hid (fun w => May_not w)
  go_enter Try.func42, Try.ntmps42
  go_upto_region 2 with fail
  have hb : Below w.heap.size w ((w.alloc (.cells kidC 49)).alloc (.cells (notC w.heap.size) 49)) := (below_box _ _).alloc (by simp) _
  have hk : Blk ((w.alloc (.cells kidC 49)).alloc (.cells (notC w.heap.size) 49)) w.heap.size 49 kidC := (Blk.new _ _ _).old _
  have hn : Blk ((w.alloc (.cells kidC 49)).alloc (.cells (notC w.heap.size) 49)) (w.heap.size + 1) 49 (notC w.heap.size) := Blk.new2 _ _ _ _
  generalize World.alloc _ _ = wa at *
  go_wp2_with fail
  ((with_reducible refine (HA.out _ _ rfl).mono ?_); rintro e w' ⟨rfl, hbw⟩)
  obtain ⟨m1, rfl⟩ := grow_mk hbw
  clear hbw
  replace hb := below_grow (hb.alloc hb.size (.cells #[.int .i64 2, .int .i64 1] 3)) m1
  replace hk := (hk.old (.cells #[.int .i64 2, .int .i64 1] 3)).grow m1
  replace hn := (hn.old (.cells #[.int .i64 2, .int .i64 1] 3)).grow m1
  generalize grow _ _ = wb at *
  go_wp2_with fail
  ((with_reducible refine (HO.out _ _ rfl).mono ?_); rintro e w' ⟨rfl, hbw⟩)
  obtain ⟨m2, rfl⟩ := grow_mk hbw
  clear hbw
  replace hb := below_grow (hb.alloc hb.size (.cells #[.int .i64 0, .int .i64 2] 3)) m2
  replace hk := (hk.old (.cells #[.int .i64 0, .int .i64 2] 3)).grow m2
  replace hn := (hn.old (.cells #[.int .i64 0, .int .i64 2] 3)).grow m2
  generalize grow _ _ = wc at *
  have c0 : wc.cell? ⟨w.heap.size + 1, 0, none⟩ = some (.int .i64 3) := hn.cell 0
  have c1 : wc.cell? ⟨w.heap.size + 1, 1, none⟩ = some (.slice (some ⟨w.heap.size, 0, none⟩) 1 1) := hn.cell 1
  have c2 : wc.cell? ⟨w.heap.size + 1, 2, none⟩ = some (.int .i64 0) := hn.cell 2
  have c3 : wc.cell? ⟨w.heap.size + 1, 3, none⟩ = some (.int .i64 0) := hn.cell 3
  have c4 : wc.cell? ⟨w.heap.size + 1, 4, none⟩ = some sv0 := hn.cell 4
  have c5 : wc.cell? ⟨w.heap.size + 1, 5, none⟩ = some (.int .i64 0) := hn.cell 5
  have c6 : wc.cell? ⟨w.heap.size + 1, 6, none⟩ = some (.int .i64 0) := hn.cell 6
  have c7 : wc.cell? ⟨w.heap.size + 1, 7, none⟩ = some (.int .i64 0) := hn.cell 7
  have c8 : wc.cell? ⟨w.heap.size + 1, 8, none⟩ = some (.int .i64 0) := hn.cell 8
  have c9 : wc.cell? ⟨w.heap.size + 1, 9, none⟩ = some (.int .i64 0) := hn.cell 9
  have c10 : wc.cell? ⟨w.heap.size + 1, 10, none⟩ = some (.slice none 0 0) := hn.cell 10
  have c11 : wc.cell? ⟨w.heap.size + 1, 11, none⟩ = some sv0 := hn.cell 11
  have c12 : wc.cell? ⟨w.heap.size + 1, 12, none⟩ = some sv0 := hn.cell 12
  have c13 : wc.cell? ⟨w.heap.size + 1, 13, none⟩ = some (.bool false) := hn.cell 13
  go_wp2_with fail
  ((with_reducible refine (HM.out _ _ _ hk).mono ?_); rintro e w' ⟨rfl, hbw⟩)
  obtain ⟨m3, rfl⟩ := grow_mk hbw
  clear hbw
  go_wp2_with fail
  go_ret
  exact ⟨rfl, below_grow hb _⟩

end Go.Proofs.Ytgjhaanpkfheeaa
