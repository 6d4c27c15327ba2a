/- The greatest common divisor of 128 bits, by halving. -/
import Derived.Test.YtgjhaanpkfheeaaDoorWideB
import Derived.Deep.LoopGhost
import Derived.Deep.RegionWith
import Derived.Deep.CutBlock
import Derived.Deep.DeepCutAuto
namespace Go.Proofs.YtgjhaanpkfheeaaDoor
set_option linter.unusedVariables false
set_option linter.unusedSimpArgs false
open Go.RowKit

/-- a block of the call's own, whole -/
def Blk (w : World) (g : Nat) (t : TypeId) (cs : Array Value) : Prop := w.heap[g]? = some (.cells cs t (0, 0))
section
variable {w w' : World} {g : Nat} {t : TypeId} {cs : Array Value}
theorem Blk.lt (h : Blk w g t cs) : g < w.heap.size := by
  apply Classical.byContradiction
  intro hn
  unfold Blk at h
  rw [Array.getElem?_eq_none (by omega)] at h
  cases h
theorem Blk.cell (h : Blk w g t cs) (i : Nat) : w.cell? ⟨g, i, none⟩ = cs[i]? := cell_of_row w g i cs t (0, 0) h
theorem Blk.frozen (h : Blk w g t cs) (i : Nat) : w.frozen? ⟨g, i, none⟩ = false := by unfold Blk at h; simp [World.frozen?, h]
theorem Blk.new (w : World) (t : TypeId) (cs : Array Value) : Blk (w.alloc (.cells cs t)) w.heap.size t cs := heap_alloc_new w _
theorem Blk.old (h : Blk w g t cs) (o : Obj) : Blk (w.alloc o) g t cs := (Below.heap_alloc w o g h.lt).trans h
theorem Blk.below {B : Nat} (h : Blk w g t cs) (hb : Below B w w') (hg : g < B) : Blk w' g t cs := (hb.block g hg).trans h
theorem Blk.grow (h : Blk w g t cs) (m : Ext w) : Blk (grow w m) g t cs := h.below (grow_below m) h.lt
theorem Blk.put (h : Blk w g t cs) (i : Nat) (u : Value) : Blk (w.setCell ⟨g, i, none⟩ u) g t (cs.setIfInBounds i u) := by
  unfold Blk at h ⊢
  simp [World.setCell, Array.getElem?_modify, h]
theorem Blk.far (h : Blk w g t cs) {p : Addr} (hp : g ≠ p.block) (u : Value) : Blk (w.setCell p u) g t cs := (Below.heap_setCell w p u g hp).trans h
theorem Blk.to (h : Blk w g t cs) {cs' : Array Value} (e : cs = cs') : Blk w g t cs' := e ▸ h
end

/-- the three variables of the divisor's reckoning -/
structure Gw (w0 wr : World) (t ah al bh bl : Nat) : Prop where
  below : Below w0.heap.size w0 wr
  a : Blk wr w0.heap.size t #[.int .u64 ah, .int .u64 al]
  b : Blk wr (w0.heap.size + 1) t #[.int .u64 bh, .int .u64 bl]
  r : Blk wr (w0.heap.size + 1 + 1) t #[.int .u64 0, .int .u64 0]
  b1 : ah < 18446744073709551616
  b2 : al < 18446744073709551616
  b3 : bh < 18446744073709551616
  b4 : bl < 18446744073709551616

theorem Blk.put2 {w : World} {g : Nat} {t : TypeId} {x y : Value} (h : Blk w g t #[x, y]) (a b : Value) : Blk ((w.setCell ⟨g, 0, none⟩ a).setCell ⟨g, 1, none⟩ b) g t #[a, b] := (h.put 0 a).put 1 b
theorem Blk.far2 {w : World} {g g' : Nat} {t : TypeId} {cs : Array Value} (h : Blk w g t cs) (hne : g ≠ g') (i j : Nat) (a b : Value) : Blk ((w.setCell ⟨g', i, none⟩ a).setCell ⟨g', j, none⟩ b) g t cs := (h.far (p := ⟨g', i, none⟩) hne a).far (p := ⟨g', j, none⟩) hne b

section
variable {w0 wr : World} {t ah al bh bl : Nat}
theorem Gw.grow (h : Gw w0 wr t ah al bh bl) (m : Ext wr) : Gw w0 (grow wr m) t ah al bh bl := ⟨below_grow h.below m, h.a.grow m, h.b.grow m, h.r.grow m, h.b1, h.b2, h.b3, h.b4⟩
theorem Gw.setA (h : Gw w0 wr t ah al bh bl) {p q : Int} {x y : Nat} (e1 : p = x) (e2 : q = y) (c1 : x < 18446744073709551616) (c2 : y < 18446744073709551616) :
    Gw w0 ((wr.setCell ⟨w0.heap.size, 0, none⟩ (.int .u64 p)).setCell ⟨w0.heap.size, 1, none⟩ (.int .u64 q)) t x y bh bl := by
  subst e1; subst e2
  exact ⟨(h.below.setCell (Nat.le_refl _) _).setCell (Nat.le_refl _) _, h.a.put2 _ _, h.b.far2 (by omega) _ _ _ _, h.r.far2 (by omega) _ _ _ _, c1, c2, h.b3, h.b4⟩
theorem Gw.setB (h : Gw w0 wr t ah al bh bl) {p q : Int} {x y : Nat} (e1 : p = x) (e2 : q = y) (c1 : x < 18446744073709551616) (c2 : y < 18446744073709551616) :
    Gw w0 ((wr.setCell ⟨w0.heap.size + 1, 0, none⟩ (.int .u64 p)).setCell ⟨w0.heap.size + 1, 1, none⟩ (.int .u64 q)) t ah al x y := by
  subst e1; subst e2
  exact ⟨(h.below.setCell (Nat.le_succ _) _).setCell (Nat.le_succ _) _, h.a.far2 (by omega) _ _ _ _, h.b.put2 _ _, h.r.far2 (by omega) _ _ _ _, h.b1, h.b2, c1, c2⟩
end

theorem par0 (x : Nat) (h1 : x < 18446744073709551616) (h : x % 2 = 0) : (bits BinOp.and IntKind.u64 (x : Int) 1 == 0) = true := by
  have e := u64_and_nat x 1 h1 (by omega)
  rw [nat_mask1, h] at e
  simpa using e
theorem par1 (x : Nat) (h1 : x < 18446744073709551616) (h : x % 2 = 1) : (bits BinOp.and IntKind.u64 (x : Int) 1 == 0) = false := by
  have e := u64_and_nat x 1 h1 (by omega)
  rw [nat_mask1, h] at e
  have e' : bits BinOp.and IntKind.u64 (x : Int) 1 = 1 := by simpa using e
  rw [e']; rfl

/-- what holds of the numbers throughout -/
structure Gs (G ah al bh bl n : Nat) : Prop where
  a : wn ah al ≠ 0
  b : wn bh bl ≠ 0
  eq : 2 ^ n * Nat.gcd (wn ah al) (wn bh bl) = G
  lt : G < 340282366920938463463374607431768211456

theorem Gs.bound {G ah al bh bl n : Nat} (h : Gs G ah al bh bl n) : n < 128 := by
  have hp : 0 < Nat.gcd (wn ah al) (wn bh bl) := Nat.gcd_pos_of_pos_left _ (by have := h.a; omega)
  have h1 : 2 ^ n * 1 ≤ 2 ^ n * Nat.gcd (wn ah al) (wn bh bl) := Nat.mul_le_mul_left _ hp
  rw [h.eq, Nat.mul_one] at h1
  have h2 := Nat.lt_of_le_of_lt h1 h.lt
  exact (Nat.pow_lt_pow_iff_right (by omega)).1 (show 2 ^ n < 2 ^ 128 from h2)

theorem wn_half (hi lo : Nat) : wn (hi / 2) (lo / 2 + hi % 2 * 9223372036854775808) = wn hi lo / 2 := by unfold wn; omega
theorem wn_par (hi lo : Nat) : wn hi lo % 2 = lo % 2 := by unfold wn; omega

theorem Gs.both {G ah al bh bl n : Nat} (h : Gs G ah al bh bl n) (pa : al % 2 = 0) (pb : bl % 2 = 0) :
    Gs G (ah / 2) (al / 2 + ah % 2 * 9223372036854775808) (bh / 2) (bl / 2 + bh % 2 * 9223372036854775808) (n + 1) := by
  obtain ⟨a, b, eq, lt⟩ := h
  rw [← wn_par ah] at pa
  rw [← wn_par bh] at pb
  refine ⟨by rw [wn_half]; omega, by rw [wn_half]; omega, ?_, lt⟩
  rw [wn_half, wn_half, Nat.pow_succ, Nat.mul_assoc, ← gcd_even_even _ _ pa pb, eq]

theorem sub_lt1 (ah al bh bl : Nat) (h : ah < 18446744073709551616) : subHi ah al bh bl < 18446744073709551616 := by unfold subHi; omega
theorem sub_lt2 (al bl : Nat) : subLo al bl < 18446744073709551616 := by unfold subLo; omega

/-- behind the second loop: a is odd -/
structure Gt (G ah al bh bl n : Nat) : Prop where
  odd : al % 2 = 1
  eq : 2 ^ n * Nat.gcd (wn ah al) (wn bh bl) = G
  lt : G < 340282366920938463463374607431768211456

theorem Gs.halfA {G ah al bh bl n : Nat} (h : Gs G ah al bh bl n) (pa : al % 2 = 0) (pb : bl % 2 = 1) : Gs G (ah / 2) (al / 2 + ah % 2 * 9223372036854775808) bh bl n := by
  obtain ⟨a, b, eq, lt⟩ := h
  rw [← wn_par ah] at pa
  rw [← wn_par bh] at pb
  refine ⟨by rw [wn_half]; omega, b, ?_, lt⟩
  rw [wn_half, gcd_even_odd _ _ pa pb, eq]
theorem Gs.done {G ah al bh bl n : Nat} (h : Gs G ah al bh bl n) (pa : al % 2 = 1) : Gt G ah al bh bl n := ⟨pa, h.eq, h.lt⟩

theorem Gt.pos {G ah al bh bl n : Nat} (h : Gt G ah al bh bl n) : 0 < wn ah al := by have := h.odd; unfold wn; omega
theorem Gt.halfB {G ah al bh bl n : Nat} (h : Gt G ah al bh bl n) (pb : bl % 2 = 0) : Gt G ah al (bh / 2) (bl / 2 + bh % 2 * 9223372036854775808) n := by
  obtain ⟨odd, eq, lt⟩ := h
  refine ⟨odd, ?_, lt⟩
  rw [← wn_par ah] at odd
  rw [← wn_par bh] at pb
  rw [wn_half, gcd_odd_even _ _ odd pb, eq]
theorem Gt.swap {G ah al bh bl n : Nat} (h : Gt G ah al bh bl n) (pb : bl % 2 = 1) : Gt G bh bl ah al n := ⟨pb, by rw [Nat.gcd_comm]; exact h.eq, h.lt⟩
theorem wn_sub (ah al bh bl : Nat) (h2 : al < 18446744073709551616) (h4 : bl < 18446744073709551616) (h : wn bh bl ≤ wn ah al) : wn (subHi ah al bh bl) (subLo al bl) = wn ah al - wn bh bl := by
  unfold wn subHi subLo at *
  split <;> omega
theorem Gt.less {G ah al bh bl n : Nat} (h : Gt G ah al bh bl n) (h2 : al < 18446744073709551616) (h4 : bl < 18446744073709551616) (hle : wn ah al ≤ wn bh bl) : Gt G ah al (subHi bh bl ah al) (subLo bl al) n := by
  obtain ⟨odd, eq, lt⟩ := h
  refine ⟨odd, ?_, lt⟩
  rw [wn_sub _ _ _ _ h4 h2 hle, gcd_less _ _ hle, eq]
theorem Gt.last {G ah al bh bl n : Nat} (h : Gt G ah al bh bl n) (hb : bh = 0 ∧ bl = 0) : 2 ^ n * wn ah al = G := by
  have := h.eq
  rw [hb.1, hb.2, show wn 0 0 = 0 from rfl, Nat.gcd_zero_right] at this
  exact this
theorem wn_twice (hi lo : Nat) (h1 : lo < 18446744073709551616) (h : 2 * wn hi lo < 340282366920938463463374607431768211456) : wn (hi * 2 % 18446744073709551616 + lo / 9223372036854775808) (lo * 2 % 18446744073709551616) = 2 * wn hi lo := by
  unfold wn at *
  omega

end Go.Proofs.YtgjhaanpkfheeaaDoor
