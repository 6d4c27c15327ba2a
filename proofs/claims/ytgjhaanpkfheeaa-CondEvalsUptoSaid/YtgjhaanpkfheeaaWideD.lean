/- The quotient of 128 bits, bit by bit. -/
import Derived.Test.YtgjhaanpkfheeaaWideC
namespace Go.Proofs.Ytgjhaanpkfheeaa
set_option linter.unusedVariables false
set_option linter.unusedSimpArgs false
open Go.RowKit

/-- the five variables of the quotient's reckoning -/
structure Gd (w0 wr : World) (t ah al bh bl qh ql rh rl : Nat) : Prop where
  below : Below w0.heap.size w0 wr
  a : Blk wr w0.heap.size t #[.int .u64 ah, .int .u64 al]
  b : Blk wr (w0.heap.size + 1) t #[.int .u64 bh, .int .u64 bl]
  o : Blk wr (w0.heap.size + 1 + 1) t #[.int .u64 0, .int .u64 0]
  q : Blk wr (w0.heap.size + 1 + 1 + 1) t #[.int .u64 qh, .int .u64 ql]
  r : Blk wr (w0.heap.size + 1 + 1 + 1 + 1) t #[.int .u64 rh, .int .u64 rl]

section
variable {w0 wr : World} {t ah al bh bl qh ql rh rl : Nat}
theorem Gd.grow (h : Gd w0 wr t ah al bh bl qh ql rh rl) (m : Ext wr) : Gd w0 (grow wr m) t ah al bh bl qh ql rh rl := ⟨below_grow h.below m, h.a.grow m, h.b.grow m, h.o.grow m, h.q.grow m, h.r.grow m⟩
theorem Gd.setQ (h : Gd w0 wr t ah al bh bl qh ql rh rl) {p q : Int} {x y : Nat} (e1 : p = x) (e2 : q = y) :
    Gd w0 ((wr.setCell ⟨w0.heap.size + 1 + 1 + 1, 0, none⟩ (.int .u64 p)).setCell ⟨w0.heap.size + 1 + 1 + 1, 1, none⟩ (.int .u64 q)) t ah al bh bl x y rh rl := by
  subst e1; subst e2
  exact ⟨(h.below.setCell (by first | omega | (simp; done) | (simp; omega)) _).setCell (by first | omega | (simp; done) | (simp; omega)) _, h.a.far2 (by omega) _ _ _ _, h.b.far2 (by omega) _ _ _ _, h.o.far2 (by omega) _ _ _ _, h.q.put2 _ _, h.r.far2 (by omega) _ _ _ _⟩
theorem Gd.setR (h : Gd w0 wr t ah al bh bl qh ql rh rl) {p q : Int} {x y : Nat} (e1 : p = x) (e2 : q = y) :
    Gd w0 ((wr.setCell ⟨w0.heap.size + 1 + 1 + 1 + 1, 0, none⟩ (.int .u64 p)).setCell ⟨w0.heap.size + 1 + 1 + 1 + 1, 1, none⟩ (.int .u64 q)) t ah al bh bl qh ql x y := by
  subst e1; subst e2
  exact ⟨(h.below.setCell (by first | omega | (simp; done) | (simp; omega)) _).setCell (by first | omega | (simp; done) | (simp; omega)) _, h.a.far2 (by omega) _ _ _ _, h.b.far2 (by omega) _ _ _ _, h.o.far2 (by omega) _ _ _ _, h.q.far2 (by omega) _ _ _ _, h.r.put2 _ _⟩
theorem Gd.setQ1 (h : Gd w0 wr t ah al bh bl qh ql rh rl) {q : Int} {y : Nat} (e2 : q = y) :
    Gd w0 (wr.setCell ⟨w0.heap.size + 1 + 1 + 1, 1, none⟩ (.int .u64 q)) t ah al bh bl qh y rh rl := by
  subst e2
  exact ⟨h.below.setCell (by first | omega | (simp; done) | (simp; omega)) _, h.a.far (by first | omega | (simp; done) | (simp; omega)) _, h.b.far (by first | omega | (simp; done) | (simp; omega)) _, h.o.far (by first | omega | (simp; done) | (simp; omega)) _, h.q.put 1 _, h.r.far (by first | omega | (simp; done) | (simp; omega)) _⟩
theorem Gd.setR1 (h : Gd w0 wr t ah al bh bl qh ql rh rl) {q : Int} {y : Nat} (e2 : q = y) :
    Gd w0 (wr.setCell ⟨w0.heap.size + 1 + 1 + 1 + 1, 1, none⟩ (.int .u64 q)) t ah al bh bl qh ql rh y := by
  subst e2
  exact ⟨h.below.setCell (by first | omega | (simp; done) | (simp; omega)) _, h.a.far (by first | omega | (simp; done) | (simp; omega)) _, h.b.far (by first | omega | (simp; done) | (simp; omega)) _, h.o.far (by first | omega | (simp; done) | (simp; omega)) _, h.q.far (by first | omega | (simp; done) | (simp; omega)) _, h.r.put 1 _⟩
end

theorem bit_hi (ah al i : Nat) (h2 : al < 18446744073709551616) (hi : 64 ≤ i) : wn ah al / 2 ^ i % 2 = ah / 2 ^ (i - 64) % 2 := by
  have e : 2 ^ i = 18446744073709551616 * 2 ^ (i - 64) := by
    rw [show (18446744073709551616 : Nat) = 2 ^ 64 from rfl, ← Nat.pow_add]; congr 1; omega
  rw [e, ← Nat.div_div_eq_div_mul]
  congr 2
  unfold wn
  omega
theorem bit_lo (ah al i : Nat) (hi : i < 64) : wn ah al / 2 ^ i % 2 = al / 2 ^ i % 2 := by
  have e : 18446744073709551616 = 2 ^ i * (2 * 2 ^ (63 - i)) := by
    rw [show (18446744073709551616 : Nat) = 2 ^ 64 from rfl, ← Nat.pow_succ', ← Nat.pow_add]; congr 1; omega
  unfold wn
  rw [e, show ah * (2 ^ i * (2 * 2 ^ (63 - i))) = 2 ^ i * (2 * (2 ^ (63 - i) * ah)) by simp only [Nat.mul_comm, Nat.mul_left_comm, Nat.mul_assoc], Nat.mul_add_div (Nat.two_pow_pos _), Nat.mul_add_mod]
theorem or_bit (x y : Nat) (hx : x < 18446744073709551616) (hy : y < 18446744073709551616) (hp : x % 2 = 0) :
    bits BinOp.or IntKind.u64 (x : Int) (bits BinOp.and IntKind.u64 (y : Int) 1) = ((x + y % 2 : Nat) : Int) := by
  have e := u64_and_nat y 1 hy (by omega)
  rw [nat_mask1] at e
  rw [show (1 : Int) = ((1 : Nat) : Int) from rfl, e, u64_or_nat _ _ hx (by omega), nat_join 1 _ _ (by omega) (by omega)]
theorem or_one (x : Nat) (hx : x < 18446744073709551616) (hp : x % 2 = 0) : bits BinOp.or IntKind.u64 (x : Int) 1 = ((x + 1 : Nat) : Int) := by
  rw [show (1 : Int) = ((1 : Nat) : Int) from rfl, u64_or_nat _ _ hx (by omega), nat_join 1 _ _ (by omega) (by omega)]
theorem or_one' (q : Nat) : bits BinOp.or IntKind.u64 ((q : Int) * 2 % 18446744073709551616) 1 = (q : Int) * 2 % 18446744073709551616 + 1 := by
  have e := or_one (q * 2 % 18446744073709551616) (by omega) (by omega)
  rw [show ((q : Int) * 2 % 18446744073709551616) = ((q * 2 % 18446744073709551616 : Nat) : Int) by omega, e]; omega
theorem or_hi (rl ah k : Nat) (h1 : ah < 18446744073709551616) :
    bits BinOp.or IntKind.u64 ((rl : Int) * 2 % 18446744073709551616) (bits BinOp.and IntKind.u64 ((ah : Int) / 2 ^ k) 1) = ((rl * 2 % 18446744073709551616 + ah / 2 ^ k % 2 : Nat) : Int) := by
  have e := or_bit (rl * 2 % 18446744073709551616) (ah / 2 ^ k) (by omega) (Nat.lt_of_le_of_lt (Nat.div_le_self _ _) h1) (by omega)
  rw [← e]
  simp only [Int.natCast_ediv, Int.natCast_pow, Int.natCast_emod, Int.natCast_mul]
  rfl

/-- one bit more: what becomes of the rest and the quotient -/
theorem step_rest {A B i rh rl bt : Nat} (hB : B ≤ 170141183460469231731687303715884105728) (hB0 : 0 < B) (r2 : rl < 18446744073709551616) (hr : wn rh rl = A / 2 ^ (i + 1) % B) (hb : bt < 2) :
    wn (rh * 2 % 18446744073709551616 + rl / 9223372036854775808) (rl * 2 % 18446744073709551616 + bt) = 2 * (A / 2 ^ (i + 1) % B) + bt := by
  have h1 := Nat.mod_lt (A / 2 ^ (i + 1)) hB0
  have h2 := wn_twice rh rl r2 (by omega)
  rw [← hr, ← h2]
  unfold wn; omega
theorem step_quo {A B i qh ql : Nat} (hA : A < 340282366920938463463374607431768211456) (q2 : ql < 18446744073709551616) (hq : wn qh ql = A / 2 ^ (i + 1) / B) :
    wn (qh * 2 % 18446744073709551616 + ql / 9223372036854775808) (ql * 2 % 18446744073709551616) = 2 * (A / 2 ^ (i + 1) / B) := by
  have h1 : A / 2 ^ (i + 1) / B ≤ A / 2 ^ (i + 1) := Nat.div_le_self _ _
  have h2 : A / 2 ^ (i + 1) = A / 2 ^ i / 2 := by rw [Nat.pow_succ, Nat.div_div_eq_div_mul]
  have h3 : A / 2 ^ i ≤ A := Nat.div_le_self _ _
  have h4 := wn_twice qh ql q2 (by omega)
  rw [h4, hq]

set_option maxRecDepth 100000 in
set_option maxHeartbeats 2000000 in
theorem wdiv_any (ah al bh bl : Nat) (h1 : ah < 18446744073709551616) (h2 : al < 18446744073709551616) (h3 : bh < 18446744073709551616) (h4 : bl < 18446744073709551616) (h5 : 0 < wn bh bl) (h6 : wn bh bl ≤ 170141183460469231731687303715884105728) (w : World) :
    Calls Try.prog 99 #[wv ah al, wv bh bl] w fun e w' => e = .returned (wv (wn ah al / wn bh bl / 18446744073709551616) (wn ah al / wn bh bl % 18446744073709551616)) ∧ Below w.heap.size w w' := by
  generalize hA : wn ah al = A
  generalize hB : wn bh bl = B at *
  have HA := Lib.hid hA; have HB := Lib.hid hB
  have HAl := Lib.hid (show A < 340282366920938463463374607431768211456 by rw [← hA]; unfold wn; omega)
  have H6 := Lib.hid h6
  clear hA hB h6
  unfold wv
  go_enter Try.func99, Try.ntmps99
  go_wp2_with fail
  go_loopg [7] 128 (fun k s wr => ∃ j qh ql rh rl : Nat, s = .int .i64 ((j : Int) - 1) ∧ j ≤ 128 ∧ j ≤ k ∧ Gd w wr 81 ah al bh bl qh ql rh rl ∧ Hid (wn qh ql = A / 2 ^ j / B ∧ wn rh rl = A / 2 ^ j % B) ∧ ql < 18446744073709551616 ∧ rl < 18446744073709551616)
  case atStart =>
    have hA := HAl.out
    refine ⟨128, 0, 0, 0, 0, by go_num, by omega, by omega, ?_, Lib.hid ?_, by omega, by omega⟩
    · have k1 := Blk.new w 81 #[.int .u64 ah, .int .u64 al]
      have k2 := Blk.new (w.alloc (.cells #[.int .u64 ah, .int .u64 al] 81)) 81 #[.int .u64 bh, .int .u64 bl]
      have k3 := Blk.new ((w.alloc (.cells #[.int .u64 ah, .int .u64 al] 81)).alloc (.cells #[.int .u64 bh, .int .u64 bl] 81)) 81 #[.int .u64 0, .int .u64 0]
      have k4 := Blk.new (((w.alloc (.cells #[.int .u64 ah, .int .u64 al] 81)).alloc (.cells #[.int .u64 bh, .int .u64 bl] 81)).alloc (.cells #[.int .u64 0, .int .u64 0] 81)) 81 #[.int .u64 0, .int .u64 0]
      have k5 := Blk.new ((((w.alloc (.cells #[.int .u64 ah, .int .u64 al] 81)).alloc (.cells #[.int .u64 bh, .int .u64 bl] 81)).alloc (.cells #[.int .u64 0, .int .u64 0] 81)).alloc (.cells #[.int .u64 0, .int .u64 0] 81)) 81 #[.int .u64 0, .int .u64 0]
      simp only [World.size_alloc] at k2 k3 k4 k5
      exact ⟨((((below_box _ _).alloc (by first | omega | (simp; done) | (simp; omega)) _).alloc (by first | omega | (simp; done) | (simp; omega)) _).alloc (by first | omega | (simp; done) | (simp; omega)) _).alloc (by first | omega | (simp; done) | (simp; omega)) _, (((k1.old _).old _).old _).old _, ((k2.old _).old _).old _, (k3.old _).old _, k4.old _, k5⟩
    · have e : A / 2 ^ 128 = 0 := Nat.div_eq_of_lt hA
      rw [e, Nat.zero_div, Nat.zero_mod]; exact ⟨rfl, rfl⟩
  case round =>
    obtain ⟨j, qh, ql, rh, rl, rfl, hj, hjk, hg, HI, q2, r2⟩ := hrel
    have ca0 : wr.cell? ⟨w.heap.size, 0, none⟩ = some (.int .u64 ah) := hg.a.cell 0
    have ca1 : wr.cell? ⟨w.heap.size, 1, none⟩ = some (.int .u64 al) := hg.a.cell 1
    have cb0 : wr.cell? ⟨w.heap.size + 1, 0, none⟩ = some (.int .u64 bh) := hg.b.cell 0
    have cb1 : wr.cell? ⟨w.heap.size + 1, 1, none⟩ = some (.int .u64 bl) := hg.b.cell 1
    have co0 : wr.cell? ⟨w.heap.size + 1 + 1, 0, none⟩ = some (.int .u64 0) := hg.o.cell 0
    have co1 : wr.cell? ⟨w.heap.size + 1 + 1, 1, none⟩ = some (.int .u64 0) := hg.o.cell 1
    have cq0 : wr.cell? ⟨w.heap.size + 1 + 1 + 1, 0, none⟩ = some (.int .u64 qh) := hg.q.cell 0
    have cq1 : wr.cell? ⟨w.heap.size + 1 + 1 + 1, 1, none⟩ = some (.int .u64 ql) := hg.q.cell 1
    have cr0 : wr.cell? ⟨w.heap.size + 1 + 1 + 1 + 1, 0, none⟩ = some (.int .u64 rh) := hg.r.cell 0
    have cr1 : wr.cell? ⟨w.heap.size + 1 + 1 + 1 + 1, 1, none⟩ = some (.int .u64 rl) := hg.r.cell 1
    have fo0 := hg.o.frozen 0
    have fo1 := hg.o.frozen 1
    have fq0 := hg.q.frozen 0
    have fq1 := hg.q.frozen 1
    have fr0 := hg.r.frozen 0
    have fr1 := hg.r.frozen 1
    have la := hg.a.lt
    have lb := hg.b.lt
    have lo := hg.o.lt
    have lq := hg.q.lt
    have lr := hg.r.lt
    by_cases hj0 : 1 ≤ j
    · obtain ⟨i, rfl⟩ : ∃ i, j = i + 1 := ⟨j - 1, by omega⟩
      go_wp2_with fail
      ((with_reducible refine (twice_any rh rl _ r2).mono ?_); rintro e w' ⟨rfl, hbw⟩)
      obtain ⟨m, rfl⟩ := grow_mk hbw
      clear hbw
      go_upto_if 17 with fail
      obtain ⟨bt, hbt⟩ : ∃ bt, bt = A / 2 ^ i % 2 := ⟨_, rfl⟩
      have HBT := Lib.hid hbt
      clear hbt
      go_cut [18] (fun s wx => Gd w wx 81 ah al bh bl qh ql (rh * 2 % 18446744073709551616 + rl / 9223372036854775808) (rl * 2 % 18446744073709551616 + bt))
      case first =>
        by_cases hi : 64 ≤ i
        · have eb := or_hi rl ah (i - 64) h1
          have HX := Lib.hid (show ah / 2 ^ (i - 64) % 2 = bt by rw [HBT.out, ← HA.out, bit_hi _ _ _ h2 hi])
          go_wp2_with fail
          go_meet
          case rel => exact ((hg.grow m).setR (x := rh * 2 % 18446744073709551616 + rl / 9223372036854775808) (y := rl * 2 % 18446744073709551616) (by omega) (by omega)).setR1 (by rw [← HX.out]; simp)
        · have eb := or_hi rl al i h2
          have HX := Lib.hid (show al / 2 ^ i % 2 = bt by rw [HBT.out, ← HA.out, bit_lo _ _ _ (by omega)])
          go_wp2_with fail
          go_meet
          case rel => exact ((hg.grow m).setR (x := rh * 2 % 18446744073709551616 + rl / 9223372036854775808) (y := rl * 2 % 18446744073709551616) (by omega) (by omega)).setR1 (by rw [← HX.out]; simp)
      case rest =>
        have HR := Lib.hid (step_rest H6.out h5 r2 HI.out.2 (show bt < 2 by have := HBT.out; omega))
        have HQ := Lib.hid (step_quo HAl.out q2 HI.out.1)
        have z1 : rh * 2 % 18446744073709551616 + rl / 9223372036854775808 < 18446744073709551616 := by omega
        have z2 : rl * 2 % 18446744073709551616 + bt < 18446744073709551616 := by have := HBT.out; omega
        clear hg ca0 ca1 cb0 cb1 co0 co1 cq0 cq1 cr0 cr1 fo0 fo1 fq0 fq1 fr0 fr1 la lb lo lq lr HI r2
        generalize rh * 2 % 18446744073709551616 + rl / 9223372036854775808 = r0 at *
        generalize rl * 2 % 18446744073709551616 + bt = r1 at *
        obtain ⟨wr, rfl⟩ : ∃ wr, wr = wc := ⟨_, rfl⟩
        have hg := hcut
        clear hcut
        have ca0 : wr.cell? ⟨w.heap.size, 0, none⟩ = some (.int .u64 ah) := hg.a.cell 0
        have ca1 : wr.cell? ⟨w.heap.size, 1, none⟩ = some (.int .u64 al) := hg.a.cell 1
        have cb0 : wr.cell? ⟨w.heap.size + 1, 0, none⟩ = some (.int .u64 bh) := hg.b.cell 0
        have cb1 : wr.cell? ⟨w.heap.size + 1, 1, none⟩ = some (.int .u64 bl) := hg.b.cell 1
        have co0 : wr.cell? ⟨w.heap.size + 1 + 1, 0, none⟩ = some (.int .u64 0) := hg.o.cell 0
        have co1 : wr.cell? ⟨w.heap.size + 1 + 1, 1, none⟩ = some (.int .u64 0) := hg.o.cell 1
        have cq0 : wr.cell? ⟨w.heap.size + 1 + 1 + 1, 0, none⟩ = some (.int .u64 qh) := hg.q.cell 0
        have cq1 : wr.cell? ⟨w.heap.size + 1 + 1 + 1, 1, none⟩ = some (.int .u64 ql) := hg.q.cell 1
        have cr0 : wr.cell? ⟨w.heap.size + 1 + 1 + 1 + 1, 0, none⟩ = some (.int .u64 r0) := hg.r.cell 0
        have cr1 : wr.cell? ⟨w.heap.size + 1 + 1 + 1 + 1, 1, none⟩ = some (.int .u64 r1) := hg.r.cell 1
        have fo0 := hg.o.frozen 0
        have fo1 := hg.o.frozen 1
        have fq0 := hg.q.frozen 0
        have fq1 := hg.q.frozen 1
        have fr0 := hg.r.frozen 0
        have fr1 := hg.r.frozen 1
        have la := hg.a.lt
        have lb := hg.b.lt
        have lo := hg.o.lt
        have lq := hg.q.lt
        have lr := hg.r.lt
        by_cases hl : wn r0 r1 < B
        · have HL := Lib.hid (show decide (wn r0 r1 < wn bh bl) = true by rw [HB.out]; simpa using hl)
          have HN := Lib.hid (div_more A B i h5)
          have HI' := Lib.hid (show wn (qh * 2 % 18446744073709551616 + ql / 9223372036854775808) (ql * 2 % 18446744073709551616) = A / 2 ^ i / B ∧ wn r0 r1 = A / 2 ^ i % B by
            have h7 := HN.out
            rw [← HBT.out, ← HR.out, if_pos hl, if_pos hl] at h7
            exact ⟨by rw [HQ.out, h7.1]; omega, h7.2.symm⟩)
          clear hl HN HR HQ
          go_wp2_with fail
          ((with_reducible refine (twice_any qh ql _ q2).mono ?_); rintro e w' ⟨rfl, hbw⟩)
          obtain ⟨m, rfl⟩ := grow_mk hbw
          clear hbw
          go_wp2_with fail
          ((with_reducible refine (less_any r0 r1 bh bl _ z2 h4).mono ?_); rintro e w' ⟨rfl, hbw⟩)
          obtain ⟨m2, rfl⟩ := grow_mk hbw
          clear hbw
          rw [HL.out]
          go_wp2_with fail
          go_roundg i
          case measure => omega
          case rel => exact ⟨i, qh * 2 % 18446744073709551616 + ql / 9223372036854775808, ql * 2 % 18446744073709551616, r0, r1, by go_num, by omega, Nat.le_refl _, ((hg.grow m).setQ (by omega) (by omega)).grow m2, HI', by omega, z2⟩
        · have HL := Lib.hid (show decide (wn r0 r1 < wn bh bl) = false by rw [HB.out]; simpa using hl)
          have HN := Lib.hid (div_more A B i h5)
          have HS := Lib.hid (show wn bh bl ≤ wn r0 r1 by rw [HB.out]; omega)
          have eo := or_one' ql
          have HI' := Lib.hid (show wn (qh * 2 % 18446744073709551616 + ql / 9223372036854775808) (ql * 2 % 18446744073709551616 + 1) = A / 2 ^ i / B ∧ wn (subHi r0 r1 bh bl) (subLo r1 bl) = A / 2 ^ i % B by
            have h7 := HN.out
            rw [← HBT.out, ← HR.out, if_neg hl, if_neg hl] at h7
            refine ⟨?_, by rw [wn_sub _ _ _ _ z2 h4 HS.out, HB.out, h7.2]⟩
            rw [h7.1, ← HQ.out]
            unfold wn; omega)
          clear hl HN HR HQ
          go_wp2_with fail
          ((with_reducible refine (twice_any qh ql _ q2).mono ?_); rintro e w' ⟨rfl, hbw⟩)
          obtain ⟨m, rfl⟩ := grow_mk hbw
          clear hbw
          go_wp2_with fail
          ((with_reducible refine (less_any r0 r1 bh bl _ z2 h4).mono ?_); rintro e w' ⟨rfl, hbw⟩)
          obtain ⟨m2, rfl⟩ := grow_mk hbw
          clear hbw
          rw [HL.out]
          go_wp2_with fail
          ((with_reducible refine (wsub_any r0 r1 bh bl z1 z2 h3 h4 HS.out _).mono ?_); rintro e w' ⟨rfl, hbw⟩)
          obtain ⟨m3, rfl⟩ := grow_mk hbw
          clear hbw
          go_wp2_with fail
          go_roundg i
          case measure => omega
          case rel => exact ⟨i, qh * 2 % 18446744073709551616 + ql / 9223372036854775808, ql * 2 % 18446744073709551616 + 1, subHi r0 r1 bh bl, subLo r1 bl, by go_num, by omega, Nat.le_refl _, (((((hg.grow m).setQ (x := qh * 2 % 18446744073709551616 + ql / 9223372036854775808) (y := ql * 2 % 18446744073709551616) (by omega) (by omega)).grow m2).grow m3).setR rfl rfl).setQ1 (by omega), HI', by omega, sub_lt2 _ _⟩
    · obtain rfl : j = 0 := by omega
      go_wp2_with fail
      have h7 : qh = A / B / 18446744073709551616 ∧ ql = A / B % 18446744073709551616 := by
        have h8 := HI.out.1
        rw [Nat.pow_zero, Nat.div_one] at h8
        rw [← h8]; unfold wn; omega
      exact bodyPost_ret (v := .agg #[.int .u64 qh, .int .u64 ql]) (by simp [results, Try.results99, go_sem, co0, co1, fo0, fo1]) rfl ⟨ret_agg2 (by rw [h7.1]) (by rw [h7.2]), (hg.below.setCell (by first | omega | (simp; done) | (simp; omega)) _).setCell (by first | omega | (simp; done) | (simp; omega)) _⟩

end Go.Proofs.Ytgjhaanpkfheeaa
