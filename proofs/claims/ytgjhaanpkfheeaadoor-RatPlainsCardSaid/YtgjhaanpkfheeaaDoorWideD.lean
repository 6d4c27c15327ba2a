/- The quotient of 128 bits, bit by bit. -/
import Derived.Test.YtgjhaanpkfheeaaDoorWideC
namespace Go.Proofs.YtgjhaanpkfheeaaDoor
set_option linter.unusedVariables false
set_option linter.unusedSimpArgs false
open Go.RowKit

/-- the five variables of the quotient's reckoning -/
structure Gd (w0 wr : World) (t ah al bh bl qh ql rh rl : Nat) : Prop where
  below : Below w0.heap.size w0 wr
  a : Blk wr w0.heap.size t #[.int .u64 ah, .int .u64 al]
  b : Blk wr (w0.heap.size + 1) t #[.int .u64 bh, .int .u64 bl]
  o : Blk wr (w0.heap.size + 1 + 1) t #[.int .u64 0, .int .u64 0]
  q : Blk wr (w0.heap.size + 1 + 1 + 1) t #[.int .u64 qh, .int .u64 ql]
  r : Blk wr (w0.heap.size + 1 + 1 + 1 + 1) t #[.int .u64 rh, .int .u64 rl]

section
variable {w0 wr : World} {t ah al bh bl qh ql rh rl : Nat}
theorem Gd.grow (h : Gd w0 wr t ah al bh bl qh ql rh rl) (m : Ext wr) : Gd w0 (grow wr m) t ah al bh bl qh ql rh rl := ⟨below_grow h.below m, h.a.grow m, h.b.grow m, h.o.grow m, h.q.grow m, h.r.grow m⟩
theorem Gd.setQ (h : Gd w0 wr t ah al bh bl qh ql rh rl) {p q : Int} {x y : Nat} (e1 : p = x) (e2 : q = y) :
    Gd w0 ((wr.setCell ⟨w0.heap.size + 1 + 1 + 1, 0, none⟩ (.int .u64 p)).setCell ⟨w0.heap.size + 1 + 1 + 1, 1, none⟩ (.int .u64 q)) t ah al bh bl x y rh rl := by
  subst e1; subst e2
  exact ⟨(h.below.setCell (by first | omega | (simp; done) | (simp; omega)) _).setCell (by first | omega | (simp; done) | (simp; omega)) _, h.a.far2 (by omega) _ _ _ _, h.b.far2 (by omega) _ _ _ _, h.o.far2 (by omega) _ _ _ _, h.q.put2 _ _, h.r.far2 (by omega) _ _ _ _⟩
theorem Gd.setR (h : Gd w0 wr t ah al bh bl qh ql rh rl) {p q : Int} {x y : Nat} (e1 : p = x) (e2 : q = y) :
    Gd w0 ((wr.setCell ⟨w0.heap.size + 1 + 1 + 1 + 1, 0, none⟩ (.int .u64 p)).setCell ⟨w0.heap.size + 1 + 1 + 1 + 1, 1, none⟩ (.int .u64 q)) t ah al bh bl qh ql x y := by
  subst e1; subst e2
  exact ⟨(h.below.setCell (by first | omega | (simp; done) | (simp; omega)) _).setCell (by first | omega | (simp; done) | (simp; omega)) _, h.a.far2 (by omega) _ _ _ _, h.b.far2 (by omega) _ _ _ _, h.o.far2 (by omega) _ _ _ _, h.q.far2 (by omega) _ _ _ _, h.r.put2 _ _⟩
theorem Gd.setQ1 (h : Gd w0 wr t ah al bh bl qh ql rh rl) {q : Int} {y : Nat} (e2 : q = y) :
    Gd w0 (wr.setCell ⟨w0.heap.size + 1 + 1 + 1, 1, none⟩ (.int .u64 q)) t ah al bh bl qh y rh rl := by
  subst e2
  exact ⟨h.below.setCell (by first | omega | (simp; done) | (simp; omega)) _, h.a.far (by first | omega | (simp; done) | (simp; omega)) _, h.b.far (by first | omega | (simp; done) | (simp; omega)) _, h.o.far (by first | omega | (simp; done) | (simp; omega)) _, h.q.put 1 _, h.r.far (by first | omega | (simp; done) | (simp; omega)) _⟩
theorem Gd.setR1 (h : Gd w0 wr t ah al bh bl qh ql rh rl) {q : Int} {y : Nat} (e2 : q = y) :
    Gd w0 (wr.setCell ⟨w0.heap.size + 1 + 1 + 1 + 1, 1, none⟩ (.int .u64 q)) t ah al bh bl qh ql rh y := by
  subst e2
  exact ⟨h.below.setCell (by first | omega | (simp; done) | (simp; omega)) _, h.a.far (by first | omega | (simp; done) | (simp; omega)) _, h.b.far (by first | omega | (simp; done) | (simp; omega)) _, h.o.far (by first | omega | (simp; done) | (simp; omega)) _, h.q.far (by first | omega | (simp; done) | (simp; omega)) _, h.r.put 1 _⟩
end

theorem bit_hi (ah al i : Nat) (h2 : al < 18446744073709551616) (hi : 64 ≤ i) : wn ah al / 2 ^ i % 2 = ah / 2 ^ (i - 64) % 2 := by
  have e : 2 ^ i = 18446744073709551616 * 2 ^ (i - 64) := by
    rw [show (18446744073709551616 : Nat) = 2 ^ 64 from rfl, ← Nat.pow_add]; congr 1; omega
  rw [e, ← Nat.div_div_eq_div_mul]
  congr 2
  unfold wn
  omega
theorem bit_lo (ah al i : Nat) (hi : i < 64) : wn ah al / 2 ^ i % 2 = al / 2 ^ i % 2 := by
  have e : 18446744073709551616 = 2 ^ i * (2 * 2 ^ (63 - i)) := by
    rw [show (18446744073709551616 : Nat) = 2 ^ 64 from rfl, ← Nat.pow_succ', ← Nat.pow_add]; congr 1; omega
  unfold wn
  rw [e, show ah * (2 ^ i * (2 * 2 ^ (63 - i))) = 2 ^ i * (2 * (2 ^ (63 - i) * ah)) by simp only [Nat.mul_comm, Nat.mul_left_comm, Nat.mul_assoc], Nat.mul_add_div (Nat.two_pow_pos _), Nat.mul_add_mod]
theorem or_bit (x y : Nat) (hx : x < 18446744073709551616) (hy : y < 18446744073709551616) (hp : x % 2 = 0) :
    bits BinOp.or IntKind.u64 (x : Int) (bits BinOp.and IntKind.u64 (y : Int) 1) = ((x + y % 2 : Nat) : Int) := by
  have e := u64_and_nat y 1 hy (by omega)
  rw [nat_mask1] at e
  rw [show (1 : Int) = ((1 : Nat) : Int) from rfl, e, u64_or_nat _ _ hx (by omega), nat_join 1 _ _ (by omega) (by omega)]
theorem or_one (x : Nat) (hx : x < 18446744073709551616) (hp : x % 2 = 0) : bits BinOp.or IntKind.u64 (x : Int) 1 = ((x + 1 : Nat) : Int) := by
  rw [show (1 : Int) = ((1 : Nat) : Int) from rfl, u64_or_nat _ _ hx (by omega), nat_join 1 _ _ (by omega) (by omega)]
theorem or_one' (q : Nat) : bits BinOp.or IntKind.u64 ((q : Int) * 2 % 18446744073709551616) 1 = (q : Int) * 2 % 18446744073709551616 + 1 := by
  have e := or_one (q * 2 % 18446744073709551616) (by omega) (by omega)
  rw [show ((q : Int) * 2 % 18446744073709551616) = ((q * 2 % 18446744073709551616 : Nat) : Int) by omega, e]; omega
theorem or_hi (rl ah k : Nat) (h1 : ah < 18446744073709551616) :
    bits BinOp.or IntKind.u64 ((rl : Int) * 2 % 18446744073709551616) (bits BinOp.and IntKind.u64 ((ah : Int) / 2 ^ k) 1) = ((rl * 2 % 18446744073709551616 + ah / 2 ^ k % 2 : Nat) : Int) := by
  have e := or_bit (rl * 2 % 18446744073709551616) (ah / 2 ^ k) (by omega) (Nat.lt_of_le_of_lt (Nat.div_le_self _ _) h1) (by omega)
  rw [← e]
  simp only [Int.natCast_ediv, Int.natCast_pow, Int.natCast_emod, Int.natCast_mul]
  rfl

/-- one bit more: what becomes of the rest and the quotient -/
theorem step_rest {A B i rh rl bt : Nat} (hB : B ≤ 170141183460469231731687303715884105728) (hB0 : 0 < B) (r2 : rl < 18446744073709551616) (hr : wn rh rl = A / 2 ^ (i + 1) % B) (hb : bt < 2) :
    wn (rh * 2 % 18446744073709551616 + rl / 9223372036854775808) (rl * 2 % 18446744073709551616 + bt) = 2 * (A / 2 ^ (i + 1) % B) + bt := by
  have h1 := Nat.mod_lt (A / 2 ^ (i + 1)) hB0
  have h2 := wn_twice rh rl r2 (by omega)
  rw [← hr, ← h2]
  unfold wn; omega
theorem step_quo {A B i qh ql : Nat} (hA : A < 340282366920938463463374607431768211456) (q2 : ql < 18446744073709551616) (hq : wn qh ql = A / 2 ^ (i + 1) / B) :
    wn (qh * 2 % 18446744073709551616 + ql / 9223372036854775808) (ql * 2 % 18446744073709551616) = 2 * (A / 2 ^ (i + 1) / B) := by
  have h1 : A / 2 ^ (i + 1) / B ≤ A / 2 ^ (i + 1) := Nat.div_le_self _ _
  have h2 : A / 2 ^ (i + 1) = A / 2 ^ i / 2 := by rw [Nat.pow_succ, Nat.div_div_eq_div_mul]
  have h3 : A / 2 ^ i ≤ A := Nat.div_le_self _ _
  have h4 := wn_twice qh ql q2 (by omega)
  rw [h4, hq]

end Go.Proofs.YtgjhaanpkfheeaaDoor
