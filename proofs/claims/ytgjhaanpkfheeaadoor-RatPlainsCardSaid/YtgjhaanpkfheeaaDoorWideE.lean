/- The reference's fraction of a sign and two numbers of 128 bits. -/
import Derived.Test.YtgjhaanpkfheeaaDoorWideD
namespace Go.Proofs.YtgjhaanpkfheeaaDoor
set_option linter.unusedVariables false
set_option linter.unusedSimpArgs false
open Go.RowKit

set_option maxHeartbeats 400000 in
theorem over_any (w : World) : Calls Tryd.prog 34 #[] w fun e w' => e = .returned (.agg #[.int .i64 0, .int .i64 0]) ∧ Below w.heap.size w w' := by
  go_enter Tryd.func34, Tryd.ntmps34
  go_wp2
  exact bodyPost_ret (v := .agg #[.int .i64 0, .int .i64 0]) (by simp [results, Tryd.results34, go_sem]) rfl ⟨rfl, below_box _ _⟩

theorem fracOf_over (neg : Bool) (n d : Nat) (h : d = 0 ∨ maxI < n / Nat.gcd n d ∨ maxI < d / Nat.gcd n d) : fracOf neg n d = (0, 0) := by
  unfold fracOf; rw [if_pos h]
theorem fracOf_fits (neg : Bool) (n d : Nat) (h1 : d ≠ 0) (h2 : n / Nat.gcd n d ≤ maxI) (h3 : d / Nat.gcd n d ≤ maxI) : fracOf neg n d = (if neg then -((n / Nat.gcd n d : Nat) : Int) else ((n / Nat.gcd n d : Nat) : Int), ((d / Nat.gcd n d : Nat) : Int)) := by
  unfold fracOf; rw [if_neg (by omega)]

/-- the variables of the reference's 'made' -/
structure Gm (w0 wr : World) (t tr nh nl dh dl : Nat) : Prop where
  below : Below w0.heap.size w0 wr
  n : Blk wr w0.heap.size t #[.int .u64 nh, .int .u64 nl]
  d : Blk wr (w0.heap.size + 1) t #[.int .u64 dh, .int .u64 dl]
  o : Blk wr (w0.heap.size + 1 + 1) tr #[.int .i64 0, .int .i64 0]
section
variable {w0 wr : World} {t tr nh nl dh dl : Nat}
theorem Gm.start (w0 : World) (t tr nh nl dh dl : Nat) : Gm w0 (((w0.alloc (.cells #[.int .u64 nh, .int .u64 nl] t)).alloc (.cells #[.int .u64 dh, .int .u64 dl] t)).alloc (.cells #[.int .i64 0, .int .i64 0] tr)) t tr nh nl dh dl := by
  have k1 := Blk.new w0 t #[.int .u64 nh, .int .u64 nl]
  have k2 := Blk.new (w0.alloc (.cells #[.int .u64 nh, .int .u64 nl] t)) t #[.int .u64 dh, .int .u64 dl]
  have k3 := Blk.new ((w0.alloc (.cells #[.int .u64 nh, .int .u64 nl] t)).alloc (.cells #[.int .u64 dh, .int .u64 dl] t)) tr #[.int .i64 0, .int .i64 0]
  simp only [World.size_alloc] at k2 k3
  exact ⟨((below_box _ _).alloc (by first | omega | (simp; done) | (simp; omega)) _).alloc (by first | omega | (simp; done) | (simp; omega)) _, (k1.old _).old _, k2.old _, k3⟩
theorem Gm.grow (h : Gm w0 wr t tr nh nl dh dl) (m : Ext wr) : Gm w0 (grow wr m) t tr nh nl dh dl := ⟨below_grow h.below m, h.n.grow m, h.d.grow m, h.o.grow m⟩
theorem Gm.old (h : Gm w0 wr t tr nh nl dh dl) (o : Obj) : Gm w0 (wr.alloc o) t tr nh nl dh dl := ⟨h.below.alloc h.below.size o, h.n.old o, h.d.old o, h.o.old o⟩
theorem Gm.setN (h : Gm w0 wr t tr nh nl dh dl) {p q : Int} {x y : Nat} (e1 : p = x) (e2 : q = y) :
    Gm w0 ((wr.setCell ⟨w0.heap.size, 0, none⟩ (.int .u64 p)).setCell ⟨w0.heap.size, 1, none⟩ (.int .u64 q)) t tr x y dh dl := by
  subst e1; subst e2
  exact ⟨(h.below.setCell (by first | omega | (simp; done) | (simp; omega)) _).setCell (by first | omega | (simp; done) | (simp; omega)) _, h.n.put2 _ _, h.d.far2 (by omega) _ _ _ _, h.o.far2 (by omega) _ _ _ _⟩
theorem Gm.setD (h : Gm w0 wr t tr nh nl dh dl) {p q : Int} {x y : Nat} (e1 : p = x) (e2 : q = y) :
    Gm w0 ((wr.setCell ⟨w0.heap.size + 1, 0, none⟩ (.int .u64 p)).setCell ⟨w0.heap.size + 1, 1, none⟩ (.int .u64 q)) t tr nh nl x y := by
  subst e1; subst e2
  exact ⟨(h.below.setCell (by first | omega | (simp; done) | (simp; omega)) _).setCell (by first | omega | (simp; done) | (simp; omega)) _, h.n.far2 (by omega) _ _ _ _, h.d.put2 _ _, h.o.far2 (by omega) _ _ _ _⟩
end

end Go.Proofs.YtgjhaanpkfheeaaDoor
