/- Which of two is greater, in the reference. -/
import Derived.Test.YtgjhaanpkfheeaaDoorRatE
import Derived.Test.YtgjhaanpkfheeaaDoorRatD
import Derived.Test.YtgjhaanpkfheeaaDoorLooseB
namespace Go.Proofs.YtgjhaanpkfheeaaDoor
set_option linter.unusedVariables false
set_option linter.unusedSimpArgs false
open Go.RowKit

set_option maxHeartbeats 1000000 in
theorem is_any (r : Rt) (w : World) (h64 : Is64 r) :
    Calls Tryd.prog 30 #[rv r] w fun e w' => e = .returned (.bool (sureB r)) ∧ Below w.heap.size w w' := by
  have hs := fun w => rmay_any r w h64
  have hd := fun h => sureB_den (r := r) h
  obtain ⟨n, d⟩ := r
  unfold mayB at hs
  simp only at hs hd
  cases c : sureB (n, d) with
  | true =>
    rw [c, Bool.or_true] at hs
    have g1 : decide ((0:Int) < d) = true := by have := hd c; simp; omega
    have HS := Lib.hid hs
    clear hs hd
    go_enter Tryd.func30, Tryd.ntmps30
    go_wp2_with fail
    ((with_reducible refine (HS.out _).mono ?_); rintro e w' ⟨rfl, hbw⟩)
    obtain ⟨m, rfl⟩ := grow_mk hbw
    clear hbw
    go_wp2_with fail
    go_ret
    exact ⟨ret_bool rfl, below_grow (below_box _ _) m⟩
  | false =>
    rw [c, Bool.or_false] at hs
    by_cases hz : n = 0 ∧ d = 0
    · obtain ⟨rfl, rfl⟩ := hz
      rw [show (decide ((0:Int) = 0) && decide ((0:Int) = 0)) = true by simp] at hs
      have HS := Lib.hid hs
      clear hs hd
      go_enter Tryd.func30, Tryd.ntmps30
      go_wp2_with fail
      ((with_reducible refine (HS.out _).mono ?_); rintro e w' ⟨rfl, hbw⟩)
      obtain ⟨m, rfl⟩ := grow_mk hbw
      clear hbw
      go_wp2_with fail
      go_ret
      exact ⟨ret_bool rfl, below_grow (below_box _ _) m⟩
    · rw [show (decide (n = 0) && decide (d = 0)) = false by simp; omega] at hs
      have HS := Lib.hid hs
      clear hs hd hz
      go_enter Tryd.func30, Tryd.ntmps30
      go_wp2_with fail
      ((with_reducible refine (HS.out _).mono ?_); rintro e w' ⟨rfl, hbw⟩)
      obtain ⟨m, rfl⟩ := grow_mk hbw
      clear hbw
      go_wp2_with fail
      go_ret
      exact ⟨ret_bool rfl, below_grow (below_box _ _) m⟩

/-- what stands where in Cmp, behind its two products -/
structure Cm (w wr : World) (g g' tr t : Nat) (n d p q : Int) (xh xl yh yl : Nat) : Prop where
  below : Below w.heap.size w wr
  a : Blk wr w.heap.size tr #[.int .i64 n, .int .i64 d]
  b : Blk wr (w.heap.size + 1) tr #[.int .i64 p, .int .i64 q]
  x : Blk wr g t #[.int .u64 xh, .int .u64 xl]
  y : Blk wr g' t #[.int .u64 yh, .int .u64 yl]
theorem Cm.set {w wr : World} {g g' tr t : Nat} {n d p q : Int} {xh xl yh yl a1 a2 a3 a4 : Nat} (h : Cm w wr g g' tr t n d p q a1 a2 a3 a4) (k : w.heap.size + 2 ≤ g) (k' : w.heap.size + 2 ≤ g') (hne : g ≠ g') :
    Cm w ((((wr.setCell ⟨g, 0, none⟩ (.int .u64 xh)).setCell ⟨g, 1, none⟩ (.int .u64 xl)).setCell ⟨g', 0, none⟩ (.int .u64 yh)).setCell ⟨g', 1, none⟩ (.int .u64 yl)) g g' tr t n d p q xh xl yh yl :=
  ⟨(((h.below.setCell (by simp; omega) _).setCell (by simp; omega) _).setCell (by simp; omega) _).setCell (by simp; omega) _, (h.a.far2 (by omega) _ _ _ _).far2 (by omega) _ _ _ _, (h.b.far2 (by omega) _ _ _ _).far2 (by omega) _ _ _ _,
    (h.x.put2 _ _).far2 hne _ _ _ _, (h.y.far2 (Ne.symm hne) _ _ _ _).put2 _ _⟩
theorem Cm.grow {w wr : World} {g g' tr t : Nat} {n d p q : Int} {xh xl yh yl : Nat} (h : Cm w wr g g' tr t n d p q xh xl yh yl) (m : Ext wr) : Cm w (grow wr m) g g' tr t n d p q xh xl yh yl := ⟨below_grow h.below m, h.a.grow m, h.b.grow m, h.x.grow m, h.y.grow m⟩

end Go.Proofs.YtgjhaanpkfheeaaDoor
