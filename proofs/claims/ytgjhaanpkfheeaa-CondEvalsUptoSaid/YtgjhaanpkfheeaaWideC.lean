/- The greatest common divisor of 128 bits, by halving. -/
import Derived.Test.YtgjhaanpkfheeaaWideB
import Derived.Deep.LoopGhost
import Derived.Deep.RegionWith
import Derived.Deep.CutBlock
import Derived.Deep.DeepCutAuto
namespace Go.Proofs.Ytgjhaanpkfheeaa
set_option linter.unusedVariables false
set_option linter.unusedSimpArgs false
open Go.RowKit

/-- a block of the call's own, whole -/
def Blk (w : World) (g : Nat) (t : TypeId) (cs : Array Value) : Prop := w.heap[g]? = some (.cells cs t (0, 0))
section
variable {w w' : World} {g : Nat} {t : TypeId} {cs : Array Value}
theorem Blk.lt (h : Blk w g t cs) : g < w.heap.size := by
  apply Classical.byContradiction
  intro hn
  unfold Blk at h
  rw [Array.getElem?_eq_none (by omega)] at h
  cases h
theorem Blk.cell (h : Blk w g t cs) (i : Nat) : w.cell? ⟨g, i, none⟩ = cs[i]? := cell_of_row w g i cs t (0, 0) h
theorem Blk.frozen (h : Blk w g t cs) (i : Nat) : w.frozen? ⟨g, i, none⟩ = false := by unfold Blk at h; simp [World.frozen?, h]
theorem Blk.new (w : World) (t : TypeId) (cs : Array Value) : Blk (w.alloc (.cells cs t)) w.heap.size t cs := heap_alloc_new w _
theorem Blk.old (h : Blk w g t cs) (o : Obj) : Blk (w.alloc o) g t cs := (Below.heap_alloc w o g h.lt).trans h
theorem Blk.below {B : Nat} (h : Blk w g t cs) (hb : Below B w w') (hg : g < B) : Blk w' g t cs := (hb.block g hg).trans h
theorem Blk.grow (h : Blk w g t cs) (m : Ext w) : Blk (grow w m) g t cs := h.below (grow_below m) h.lt
theorem Blk.put (h : Blk w g t cs) (i : Nat) (u : Value) : Blk (w.setCell ⟨g, i, none⟩ u) g t (cs.setIfInBounds i u) := by
  unfold Blk at h ⊢
  simp [World.setCell, Array.getElem?_modify, h]
theorem Blk.far (h : Blk w g t cs) {p : Addr} (hp : g ≠ p.block) (u : Value) : Blk (w.setCell p u) g t cs := (Below.heap_setCell w p u g hp).trans h
theorem Blk.to (h : Blk w g t cs) {cs' : Array Value} (e : cs = cs') : Blk w g t cs' := e ▸ h
end

/-- the three variables of the divisor's reckoning -/
structure Gw (w0 wr : World) (t ah al bh bl : Nat) : Prop where
  below : Below w0.heap.size w0 wr
  a : Blk wr w0.heap.size t #[.int .u64 ah, .int .u64 al]
  b : Blk wr (w0.heap.size + 1) t #[.int .u64 bh, .int .u64 bl]
  r : Blk wr (w0.heap.size + 1 + 1) t #[.int .u64 0, .int .u64 0]
  b1 : ah < 18446744073709551616
  b2 : al < 18446744073709551616
  b3 : bh < 18446744073709551616
  b4 : bl < 18446744073709551616

theorem Blk.put2 {w : World} {g : Nat} {t : TypeId} {x y : Value} (h : Blk w g t #[x, y]) (a b : Value) : Blk ((w.setCell ⟨g, 0, none⟩ a).setCell ⟨g, 1, none⟩ b) g t #[a, b] := (h.put 0 a).put 1 b
theorem Blk.far2 {w : World} {g g' : Nat} {t : TypeId} {cs : Array Value} (h : Blk w g t cs) (hne : g ≠ g') (i j : Nat) (a b : Value) : Blk ((w.setCell ⟨g', i, none⟩ a).setCell ⟨g', j, none⟩ b) g t cs := (h.far (p := ⟨g', i, none⟩) hne a).far (p := ⟨g', j, none⟩) hne b

section
variable {w0 wr : World} {t ah al bh bl : Nat}
theorem Gw.grow (h : Gw w0 wr t ah al bh bl) (m : Ext wr) : Gw w0 (grow wr m) t ah al bh bl := ⟨below_grow h.below m, h.a.grow m, h.b.grow m, h.r.grow m, h.b1, h.b2, h.b3, h.b4⟩
theorem Gw.setA (h : Gw w0 wr t ah al bh bl) {p q : Int} {x y : Nat} (e1 : p = x) (e2 : q = y) (c1 : x < 18446744073709551616) (c2 : y < 18446744073709551616) :
    Gw w0 ((wr.setCell ⟨w0.heap.size, 0, none⟩ (.int .u64 p)).setCell ⟨w0.heap.size, 1, none⟩ (.int .u64 q)) t x y bh bl := by
  subst e1; subst e2
  exact ⟨(h.below.setCell (Nat.le_refl _) _).setCell (Nat.le_refl _) _, h.a.put2 _ _, h.b.far2 (by omega) _ _ _ _, h.r.far2 (by omega) _ _ _ _, c1, c2, h.b3, h.b4⟩
theorem Gw.setB (h : Gw w0 wr t ah al bh bl) {p q : Int} {x y : Nat} (e1 : p = x) (e2 : q = y) (c1 : x < 18446744073709551616) (c2 : y < 18446744073709551616) :
    Gw w0 ((wr.setCell ⟨w0.heap.size + 1, 0, none⟩ (.int .u64 p)).setCell ⟨w0.heap.size + 1, 1, none⟩ (.int .u64 q)) t ah al x y := by
  subst e1; subst e2
  exact ⟨(h.below.setCell (Nat.le_succ _) _).setCell (Nat.le_succ _) _, h.a.far2 (by omega) _ _ _ _, h.b.put2 _ _, h.r.far2 (by omega) _ _ _ _, h.b1, h.b2, c1, c2⟩
end

theorem par0 (x : Nat) (h1 : x < 18446744073709551616) (h : x % 2 = 0) : (bits BinOp.and IntKind.u64 (x : Int) 1 == 0) = true := by
  have e := u64_and_nat x 1 h1 (by omega)
  rw [nat_mask1, h] at e
  simpa using e
theorem par1 (x : Nat) (h1 : x < 18446744073709551616) (h : x % 2 = 1) : (bits BinOp.and IntKind.u64 (x : Int) 1 == 0) = false := by
  have e := u64_and_nat x 1 h1 (by omega)
  rw [nat_mask1, h] at e
  have e' : bits BinOp.and IntKind.u64 (x : Int) 1 = 1 := by simpa using e
  rw [e']; rfl

/-- what holds of the numbers throughout -/
structure Gs (G ah al bh bl n : Nat) : Prop where
  a : wn ah al ≠ 0
  b : wn bh bl ≠ 0
  eq : 2 ^ n * Nat.gcd (wn ah al) (wn bh bl) = G
  lt : G < 340282366920938463463374607431768211456

theorem Gs.bound {G ah al bh bl n : Nat} (h : Gs G ah al bh bl n) : n < 128 := by
  have hp : 0 < Nat.gcd (wn ah al) (wn bh bl) := Nat.gcd_pos_of_pos_left _ (by have := h.a; omega)
  have h1 : 2 ^ n * 1 ≤ 2 ^ n * Nat.gcd (wn ah al) (wn bh bl) := Nat.mul_le_mul_left _ hp
  rw [h.eq, Nat.mul_one] at h1
  have h2 := Nat.lt_of_le_of_lt h1 h.lt
  exact (Nat.pow_lt_pow_iff_right (by omega)).1 (show 2 ^ n < 2 ^ 128 from h2)

theorem wn_half (hi lo : Nat) : wn (hi / 2) (lo / 2 + hi % 2 * 9223372036854775808) = wn hi lo / 2 := by unfold wn; omega
theorem wn_par (hi lo : Nat) : wn hi lo % 2 = lo % 2 := by unfold wn; omega

theorem Gs.both {G ah al bh bl n : Nat} (h : Gs G ah al bh bl n) (pa : al % 2 = 0) (pb : bl % 2 = 0) :
    Gs G (ah / 2) (al / 2 + ah % 2 * 9223372036854775808) (bh / 2) (bl / 2 + bh % 2 * 9223372036854775808) (n + 1) := by
  obtain ⟨a, b, eq, lt⟩ := h
  rw [← wn_par ah] at pa
  rw [← wn_par bh] at pb
  refine ⟨by rw [wn_half]; omega, by rw [wn_half]; omega, ?_, lt⟩
  rw [wn_half, wn_half, Nat.pow_succ, Nat.mul_assoc, ← gcd_even_even _ _ pa pb, eq]

theorem sub_lt1 (ah al bh bl : Nat) (h : ah < 18446744073709551616) : subHi ah al bh bl < 18446744073709551616 := by unfold subHi; omega
theorem sub_lt2 (al bl : Nat) : subLo al bl < 18446744073709551616 := by unfold subLo; omega

/-- behind the second loop: a is odd -/
structure Gt (G ah al bh bl n : Nat) : Prop where
  odd : al % 2 = 1
  eq : 2 ^ n * Nat.gcd (wn ah al) (wn bh bl) = G
  lt : G < 340282366920938463463374607431768211456

theorem Gs.halfA {G ah al bh bl n : Nat} (h : Gs G ah al bh bl n) (pa : al % 2 = 0) (pb : bl % 2 = 1) : Gs G (ah / 2) (al / 2 + ah % 2 * 9223372036854775808) bh bl n := by
  obtain ⟨a, b, eq, lt⟩ := h
  rw [← wn_par ah] at pa
  rw [← wn_par bh] at pb
  refine ⟨by rw [wn_half]; omega, b, ?_, lt⟩
  rw [wn_half, gcd_even_odd _ _ pa pb, eq]
theorem Gs.done {G ah al bh bl n : Nat} (h : Gs G ah al bh bl n) (pa : al % 2 = 1) : Gt G ah al bh bl n := ⟨pa, h.eq, h.lt⟩

theorem Gt.pos {G ah al bh bl n : Nat} (h : Gt G ah al bh bl n) : 0 < wn ah al := by have := h.odd; unfold wn; omega
theorem Gt.halfB {G ah al bh bl n : Nat} (h : Gt G ah al bh bl n) (pb : bl % 2 = 0) : Gt G ah al (bh / 2) (bl / 2 + bh % 2 * 9223372036854775808) n := by
  obtain ⟨odd, eq, lt⟩ := h
  refine ⟨odd, ?_, lt⟩
  rw [← wn_par ah] at odd
  rw [← wn_par bh] at pb
  rw [wn_half, gcd_odd_even _ _ odd pb, eq]
theorem Gt.swap {G ah al bh bl n : Nat} (h : Gt G ah al bh bl n) (pb : bl % 2 = 1) : Gt G bh bl ah al n := ⟨pb, by rw [Nat.gcd_comm]; exact h.eq, h.lt⟩
theorem wn_sub (ah al bh bl : Nat) (h2 : al < 18446744073709551616) (h4 : bl < 18446744073709551616) (h : wn bh bl ≤ wn ah al) : wn (subHi ah al bh bl) (subLo al bl) = wn ah al - wn bh bl := by
  unfold wn subHi subLo at *
  split <;> omega
theorem Gt.less {G ah al bh bl n : Nat} (h : Gt G ah al bh bl n) (h2 : al < 18446744073709551616) (h4 : bl < 18446744073709551616) (hle : wn ah al ≤ wn bh bl) : Gt G ah al (subHi bh bl ah al) (subLo bl al) n := by
  obtain ⟨odd, eq, lt⟩ := h
  refine ⟨odd, ?_, lt⟩
  rw [wn_sub _ _ _ _ h4 h2 hle, gcd_less _ _ hle, eq]
theorem Gt.last {G ah al bh bl n : Nat} (h : Gt G ah al bh bl n) (hb : bh = 0 ∧ bl = 0) : 2 ^ n * wn ah al = G := by
  have := h.eq
  rw [hb.1, hb.2, show wn 0 0 = 0 from rfl, Nat.gcd_zero_right] at this
  exact this
theorem wn_twice (hi lo : Nat) (h1 : lo < 18446744073709551616) (h : 2 * wn hi lo < 340282366920938463463374607431768211456) : wn (hi * 2 % 18446744073709551616 + lo / 9223372036854775808) (lo * 2 % 18446744073709551616) = 2 * wn hi lo := by
  unfold wn at *
  omega

set_option maxHeartbeats 1000000 in
theorem wgcd_any (ah al bh bl : Nat) (h1 : ah < 18446744073709551616) (h2 : al < 18446744073709551616) (h3 : bh < 18446744073709551616) (h4 : bl < 18446744073709551616) (h5 : wn bh bl ≠ 0) (w : World) :
    Calls Try.prog 98 #[wv ah al, wv bh bl] w fun e w' => e = .returned (wv (Nat.gcd (wn ah al) (wn bh bl) / 18446744073709551616) (Nat.gcd (wn ah al) (wn bh bl) % 18446744073709551616)) ∧ Below w.heap.size w w' := by
  by_cases c0 : ah = 0 ∧ al = 0
  · have c0' : decide (ah = 0 ∧ al = 0) = true := by simpa using c0
    have HG := Lib.hid (show Nat.gcd (wn ah al) (wn bh bl) = wn bh bl by rw [c0.1, c0.2, show wn 0 0 = 0 from rfl, Nat.gcd_zero_left])
    have HC := Lib.hid c0'
    clear c0 c0' h5
    rw [HG.out]
    unfold wv
    go_enter Try.func98, Try.ntmps98
    go_wp2_with fail
    ((with_reducible refine (none_any ah al _).mono ?_); rintro e w' ⟨rfl, hbw⟩)
    obtain ⟨m1, rfl⟩ := grow_mk hbw
    clear hbw
    rw [HC.out]
    go_wp2_with fail
    have h6 : bh = wn bh bl / 18446744073709551616 ∧ bl = wn bh bl % 18446744073709551616 := by unfold wn; omega
    exact bodyPost_ret (v := .agg #[.int .u64 bh, .int .u64 bl]) (by simp [results, Try.results98, go_sem]) rfl ⟨ret_agg2 (by rw [← h6.1]) (by rw [← h6.2]), ((below_grow (((below_box _ _).alloc (by simp) _).alloc (by simp; omega) _) m1).setCell (by simp; omega) _).setCell (by simp; omega) _⟩
  · have c0' : decide (ah = 0 ∧ al = 0) = false := by simpa using c0
    have hA : wn ah al ≠ 0 := by unfold wn; omega
    generalize hG : Nat.gcd (wn ah al) (wn bh bl) = G
    have hGl : G ≤ wn bh bl := by rw [← hG]; exact Nat.gcd_le_right _ (by omega)
    have GS := Lib.hid (show Gs G ah al bh bl 0 from ⟨hA, h5, by rw [hG]; omega, by unfold wn at hGl; omega⟩)
    have HC := Lib.hid c0'
    clear hA h5 hG c0 c0' hGl
    unfold wv
    go_enter Try.func98, Try.ntmps98
    go_wp2_with fail
    ((with_reducible refine (none_any ah al _).mono ?_); rintro e w' ⟨rfl, hbw⟩)
    obtain ⟨m1, rfl⟩ := grow_mk hbw
    clear hbw
    rw [HC.out]
    go_upto_block 0 with fail
    go_cut [5] (fun s wr => ∃ ah al bh bl n : Nat, s = .int .i64 n ∧ Gw w wr 81 ah al bh bl ∧ Gs G ah al bh bl n ∧ Hid (al % 2 = 1 ∨ bl % 2 = 1))
    case first =>
      go_wp2_with fail
      go_loopg [5] (wn ah al) (fun k s wr => ∃ ah al bh bl n : Nat, s = .int .i64 n ∧ Gw w wr 81 ah al bh bl ∧ Gs G ah al bh bl n ∧ wn ah al ≤ k)
      case atStart =>
        have k1 : Gw w (((w.alloc (.cells #[.int .u64 ah, .int .u64 al] 81)).alloc (.cells #[.int .u64 bh, .int .u64 bl] 81)).alloc (.cells #[.int .u64 0, .int .u64 0] 81)) 81 ah al bh bl :=
          ⟨((below_box _ _).alloc (by simp) _).alloc (by simp; omega) _, ((Blk.new _ _ _).old _).old _, by have := (Blk.new (w.alloc (.cells #[.int .u64 ah, .int .u64 al] 81)) 81 #[.int .u64 bh, .int .u64 bl]).old (.cells #[.int .u64 0, .int .u64 0] 81); simpa using this,
            by have := Blk.new ((w.alloc (.cells #[.int .u64 ah, .int .u64 al] 81)).alloc (.cells #[.int .u64 bh, .int .u64 bl] 81)) 81 #[.int .u64 0, .int .u64 0]; simpa using this, h1, h2, h3, h4⟩
        exact ⟨ah, al, bh, bl, 0, rfl, k1.grow m1, GS.out, Nat.le_refl _⟩
      case round =>
        obtain ⟨xh, xl, yh, yl, n, rfl, hg, hs, hk⟩ := hrel
        have ca0 : wr.cell? ⟨w.heap.size, 0, none⟩ = some (.int .u64 xh) := hg.a.cell 0
        have ca1 : wr.cell? ⟨w.heap.size, 1, none⟩ = some (.int .u64 xl) := hg.a.cell 1
        have cb0 : wr.cell? ⟨w.heap.size + 1, 0, none⟩ = some (.int .u64 yh) := hg.b.cell 0
        have cb1 : wr.cell? ⟨w.heap.size + 1, 1, none⟩ = some (.int .u64 yl) := hg.b.cell 1
        have fa0 := hg.a.frozen 0
        have fa1 := hg.a.frozen 1
        have fb0 := hg.b.frozen 0
        have fb1 := hg.b.frozen 1
        have la := hg.a.lt
        have lb := hg.b.lt
        have lr := hg.r.lt
        have b1 := hg.b1; have b2 := hg.b2; have b3 := hg.b3; have b4 := hg.b4
        have hn := hs.bound
        by_cases pa : xl % 2 = 0
        · have ga := par0 xl b2 pa
          by_cases pb : yl % 2 = 0
          · have gb := par0 yl b4 pb
            have GS' := hs.both pa pb
            have hw := wn_half xh xl
            have hne := hs.a
            have HM := Lib.hid (show wn (xh / 2) (xl / 2 + xh % 2 * 9223372036854775808) < gk by omega)
            clear pa pb hw hne
            go_wp2_with fail
            refine wp_region_last 4 _ (by kernel_rfl) rfl (by kernel_rfl) (by kernel_rfl) ?_
            simp only [headOf, hush, List.take_succ_cons, List.take_zero, List.cons_append, List.nil_append, List.drop_succ_cons, List.drop_zero]
            repeat (go_big_quiet_step ((first | (go_at_call 118; exact calls_grow (half_any _ _ _ (by assumption) (by assumption))))))
            refine wpQuiet_nil ?_
            rintro _ ⟨m, rfl⟩
            go_wp2
            go_roundg (wn (xh / 2) (xl / 2 + xh % 2 * 9223372036854775808))
            case measure => exact HM.out
            case rel => exact ⟨_, _, _, _, n + 1, by go_num, ((hg.grow m).setA (x := xh / 2) (y := xl / 2 + xh % 2 * 9223372036854775808) (by omega) (by omega) (by omega) (by omega)).setB (x := yh / 2) (y := yl / 2 + yh % 2 * 9223372036854775808) (by omega) (by omega) (by omega) (by omega), GS', Nat.le_refl _⟩
          · have gb := par1 yl b4 (by omega)
            have HD := Lib.hid (show xl % 2 = 1 ∨ yl % 2 = 1 by omega)
            clear pa pb
            go_wp2_with fail
            go_meet
            case rel => exact ⟨xh, xl, yh, yl, n, rfl, hg, hs, HD⟩
        · have ga := par1 xl b2 (by omega)
          have HD := Lib.hid (show xl % 2 = 1 ∨ yl % 2 = 1 by omega)
          clear pa
          go_wp2_with fail
          go_meet
          case rel => exact ⟨xh, xl, yh, yl, n, rfl, hg, hs, HD⟩
    case rest =>
      obtain ⟨xh, xl, yh, yl, n, rfl, hg, hs, HD⟩ := hcut
      have hn := hs.bound
      go_wp2_with fail
      go_loopg [25] (wn xh xl) (fun k s wr => ∃ ah al : Nat, Gw w wr 81 ah al yh yl ∧ Gs G ah al yh yl n ∧ Hid (al % 2 = 1 ∨ yl % 2 = 1) ∧ wn ah al ≤ k)
      case atStart => exact ⟨xh, xl, hg, hs, HD, Nat.le_refl _⟩
      case round =>
        clear hg hs HD
        obtain ⟨xh, xl, hg, hs, HD, hk⟩ := hrel
        have ca0 : wr.cell? ⟨w.heap.size, 0, none⟩ = some (.int .u64 xh) := hg.a.cell 0
        have ca1 : wr.cell? ⟨w.heap.size, 1, none⟩ = some (.int .u64 xl) := hg.a.cell 1
        have cb0 : wr.cell? ⟨w.heap.size + 1, 0, none⟩ = some (.int .u64 yh) := hg.b.cell 0
        have cb1 : wr.cell? ⟨w.heap.size + 1, 1, none⟩ = some (.int .u64 yl) := hg.b.cell 1
        have fa0 := hg.a.frozen 0
        have fa1 := hg.a.frozen 1
        have fb0 := hg.b.frozen 0
        have fb1 := hg.b.frozen 1
        have la := hg.a.lt
        have lb := hg.b.lt
        have lr := hg.r.lt
        have b1 := hg.b1; have b2 := hg.b2; have b3 := hg.b3; have b4 := hg.b4
        by_cases pa : xl % 2 = 0
        · have ga := par0 xl b2 pa
          have pb : yl % 2 = 1 := by have := HD.out; omega
          have GS' := hs.halfA pa pb
          have HD' := Lib.hid (show (xl / 2 + xh % 2 * 9223372036854775808) % 2 = 1 ∨ yl % 2 = 1 from Or.inr pb)
          have hw := wn_half xh xl
          have hne := hs.a
          have HM := Lib.hid (show wn (xh / 2) (xl / 2 + xh % 2 * 9223372036854775808) < gk by omega)
          clear pa pb hw hne
          go_wp2_with fail
          ((with_reducible refine (half_any xh xl _ b1 b2).mono ?_); rintro e w' ⟨rfl, hbw⟩)
          obtain ⟨m, rfl⟩ := grow_mk hbw
          clear hbw
          go_wp2_with fail
          go_roundg (wn (xh / 2) (xl / 2 + xh % 2 * 9223372036854775808))
          case measure => exact HM.out
          case rel => exact ⟨_, _, (hg.grow m).setA (x := xh / 2) (y := xl / 2 + xh % 2 * 9223372036854775808) (by omega) (by omega) (by omega) (by omega), GS', HD', Nat.le_refl _⟩
        · have ga := par1 xl b2 (by omega)
          have GT := hs.done (by omega)
          clear pa HD hs hk
          go_wp2_with fail
          go_loopg [31] (wn xh xl + wn yh yl) (fun k s wr => ∃ ah al bh bl : Nat, Gw w wr 81 ah al bh bl ∧ Gt G ah al bh bl n ∧ wn ah al + wn bh bl ≤ k)
          case atStart => exact ⟨xh, xl, yh, yl, hg, GT, Nat.le_refl _⟩
          case round =>
            obtain ⟨K, rfl⟩ : ∃ K, K = gk := ⟨_, rfl⟩
            clear hg GT ca0 ca1 cb0 cb1 fa0 fa1 fb0 fb1 la lb lr b1 b2 b3 b4 ga
            obtain ⟨xh, xl, yh, yl, hg, GT, hk⟩ := hrel
            have ca0 : wr.cell? ⟨w.heap.size, 0, none⟩ = some (.int .u64 xh) := hg.a.cell 0
            have ca1 : wr.cell? ⟨w.heap.size, 1, none⟩ = some (.int .u64 xl) := hg.a.cell 1
            have cb0 : wr.cell? ⟨w.heap.size + 1, 0, none⟩ = some (.int .u64 yh) := hg.b.cell 0
            have cb1 : wr.cell? ⟨w.heap.size + 1, 1, none⟩ = some (.int .u64 yl) := hg.b.cell 1
            have fa0 := hg.a.frozen 0
            have fa1 := hg.a.frozen 1
            have fb0 := hg.b.frozen 0
            have fb1 := hg.b.frozen 1
            have la := hg.a.lt
            have lb := hg.b.lt
            have lr := hg.r.lt
            have b1 := hg.b1; have b2 := hg.b2; have b3 := hg.b3; have b4 := hg.b4
            by_cases pz : yh = 0 ∧ yl = 0
            · have HZ := Lib.hid (show decide (yh = 0 ∧ yl = 0) = true by simpa using pz)
              have HL := Lib.hid (GT.last pz)
              clear pz
              go_wp2_with fail
              ((with_reducible refine (none_any yh yl _).mono ?_); rintro e w' ⟨rfl, hbw⟩)
              obtain ⟨m, rfl⟩ := grow_mk hbw
              clear hbw
              rw [HZ.out]
              go_wp2_with fail
              have HG2 := Lib.hid GT.lt
              go_loopg [49] n (fun k s wr => ∃ i ah al : Nat, s = .int .i64 i ∧ i ≤ n ∧ n ≤ i + k ∧ Gw w wr 81 ah al yh yl ∧ Hid (2 ^ (n - i) * wn ah al = G))
              case atStart => exact ⟨0, xh, xl, rfl, Nat.zero_le _, by omega, hg.grow m, HL⟩
              case round =>
                clear hg GT ca0 ca1 cb0 cb1 fa0 fa1 fb0 fb1 la lb lr b1 b2 b3 b4 hk HL
                obtain ⟨i, xh, xl, rfl, hi, hik, hg, HL⟩ := hrel
                have ca0 : wr.cell? ⟨w.heap.size, 0, none⟩ = some (.int .u64 xh) := hg.a.cell 0
                have ca1 : wr.cell? ⟨w.heap.size, 1, none⟩ = some (.int .u64 xl) := hg.a.cell 1
                have cb0 : wr.cell? ⟨w.heap.size + 1, 0, none⟩ = some (.int .u64 yh) := hg.b.cell 0
                have cb1 : wr.cell? ⟨w.heap.size + 1, 1, none⟩ = some (.int .u64 yl) := hg.b.cell 1
                have fa0 := hg.a.frozen 0
                have fa1 := hg.a.frozen 1
                have fb0 := hg.b.frozen 0
                have fb1 := hg.b.frozen 1
                have la := hg.a.lt
                have lb := hg.b.lt
                have lr := hg.r.lt
                have b1 := hg.b1; have b2 := hg.b2; have b3 := hg.b3; have b4 := hg.b4
                have cr0 : wr.cell? ⟨w.heap.size + 1 + 1, 0, none⟩ = some (.int .u64 0) := hg.r.cell 0
                have cr1 : wr.cell? ⟨w.heap.size + 1 + 1, 1, none⟩ = some (.int .u64 0) := hg.r.cell 1
                have fr0 := hg.r.frozen 0
                have fr1 := hg.r.frozen 1
                by_cases hlt : i < n
                · have h2 := HL.out
                  rw [show n - i = n - (i + 1) + 1 by omega, Nat.pow_succ, Nat.mul_assoc] at h2
                  have h3 : 2 * wn xh xl ≤ G := by rw [← h2]; exact Nat.le_mul_of_pos_left _ (Nat.two_pow_pos _)
                  have h4 := HG2.out
                  have h5 := wn_twice xh xl b2 (by omega)
                  rw [← h5] at h2
                  have HL' := Lib.hid h2
                  have HB := Lib.hid (show xh * 2 % 18446744073709551616 + xl / 9223372036854775808 < 18446744073709551616 by omega)
                  clear h2 h3 h4 h5
                  go_wp2_with fail
                  ((with_reducible refine (twice_any xh xl _ b2).mono ?_); rintro e w' ⟨rfl, hbw⟩)
                  obtain ⟨m, rfl⟩ := grow_mk hbw
                  clear hbw
                  go_wp2_with fail
                  go_roundg (n - (i + 1))
                  case measure => omega
                  case rel => exact ⟨i + 1, xh * 2 % 18446744073709551616 + xl / 9223372036854775808, xl * 2 % 18446744073709551616, by go_num, by omega, by omega, (hg.grow m).setA (by omega) (by omega) HB.out (by omega), HL'⟩
                · have h2 := HL.out
                  rw [show n - i = 0 by omega, Nat.pow_zero, Nat.one_mul] at h2
                  have HL' := Lib.hid h2
                  clear h2
                  go_wp2_with fail
                  have h6 : xh = G / 18446744073709551616 ∧ xl = G % 18446744073709551616 := by have h7 := HL'.out; unfold wn at h7; omega
                  exact bodyPost_ret (v := .agg #[.int .u64 xh, .int .u64 xl]) (by simp [results, Try.results98, go_sem, cr0, cr1, fr0, fr1]) rfl ⟨ret_agg2 (by rw [h6.1]) (by rw [h6.2]), (hg.below.setCell (by simp; omega) _).setCell (by simp; omega) _⟩
            · have HZ := Lib.hid (show decide (yh = 0 ∧ yl = 0) = false by simpa using pz)
              have hb0 : 0 < wn yh yl := by unfold wn; omega
              clear pz
              go_wp2_with fail
              ((with_reducible refine (none_any yh yl _).mono ?_); rintro e w' ⟨rfl, hbw⟩)
              obtain ⟨m, rfl⟩ := grow_mk hbw
              clear hbw
              rw [HZ.out]
              go_wp2_with fail
              go_loopg [34] (wn yh yl) (fun k s wr => ∃ bh bl : Nat, Gw w wr 81 xh xl bh bl ∧ Gt G xh xl bh bl n ∧ 0 < wn bh bl ∧ wn bh bl ≤ k ∧ wn xh xl + wn bh bl ≤ K)
              case atStart => exact ⟨yh, yl, hg.grow m, GT, hb0, Nat.le_refl _, hk⟩
              case round =>
                clear hg GT ca0 ca1 cb0 cb1 fa0 fa1 fb0 fb1 la lb lr b1 b2 b3 b4 hb0 hk
                obtain ⟨yh, yl, hg, GT, hb0, hk1, hk⟩ := hrel
                have ca0 : wr.cell? ⟨w.heap.size, 0, none⟩ = some (.int .u64 xh) := hg.a.cell 0
                have ca1 : wr.cell? ⟨w.heap.size, 1, none⟩ = some (.int .u64 xl) := hg.a.cell 1
                have cb0 : wr.cell? ⟨w.heap.size + 1, 0, none⟩ = some (.int .u64 yh) := hg.b.cell 0
                have cb1 : wr.cell? ⟨w.heap.size + 1, 1, none⟩ = some (.int .u64 yl) := hg.b.cell 1
                have fa0 := hg.a.frozen 0
                have fa1 := hg.a.frozen 1
                have fb0 := hg.b.frozen 0
                have fb1 := hg.b.frozen 1
                have la := hg.a.lt
                have lb := hg.b.lt
                have lr := hg.r.lt
                have b1 := hg.b1; have b2 := hg.b2; have b3 := hg.b3; have b4 := hg.b4
                by_cases pb : yl % 2 = 0
                · have gb := par0 yl b4 pb
                  have GT' := GT.halfB pb
                  have hw := wn_half yh yl
                  have hpar := wn_par yh yl
                  have HM := Lib.hid (show wn (yh / 2) (yl / 2 + yh % 2 * 9223372036854775808) < gk by omega)
                  have HN := Lib.hid (show 0 < wn (yh / 2) (yl / 2 + yh % 2 * 9223372036854775808) by omega)
                  have HP := Lib.hid (show wn xh xl + wn (yh / 2) (yl / 2 + yh % 2 * 9223372036854775808) ≤ K by omega)
                  clear pb hw hpar
                  go_wp2_with fail
                  ((with_reducible refine (half_any yh yl _ b3 b4).mono ?_); rintro e w' ⟨rfl, hbw⟩)
                  obtain ⟨m, rfl⟩ := grow_mk hbw
                  clear hbw
                  go_wp2_with fail
                  go_roundg (wn (yh / 2) (yl / 2 + yh % 2 * 9223372036854775808))
                  case measure => exact HM.out
                  case rel => exact ⟨_, _, (hg.grow m).setB (x := yh / 2) (y := yl / 2 + yh % 2 * 9223372036854775808) (by omega) (by omega) (by omega) (by omega), GT', HN.out, Nat.le_refl _, HP.out⟩
                · have pb' : yl % 2 = 1 := by omega
                  have gb := par1 yl b4 pb'
                  have HO := Lib.hid pb'
                  clear pb pb'
                  by_cases pl : wn yh yl < wn xh xl
                  · have HZ' := Lib.hid (show decide (wn yh yl < wn xh xl) = true by simpa using pl)
                    have GT' := (GT.swap HO.out).less b4 b2 (by omega)
                    have hw := wn_sub xh xl yh yl b2 b4 (by omega)
                    have HM := Lib.hid (show wn yh yl + wn (subHi xh xl yh yl) (subLo xl yl) < K by omega)
                    have HS := Lib.hid (show wn yh yl ≤ wn xh xl by omega)
                    clear pl hw
                    go_wp2_with fail
                    ((with_reducible refine (less_any yh yl xh xl _ b4 b2).mono ?_); rintro e w' ⟨rfl, hbw⟩)
                    obtain ⟨m, rfl⟩ := grow_mk hbw
                    clear hbw
                    rw [HZ'.out]
                    go_wp2_with fail
                    ((with_reducible refine (wsub_any xh xl yh yl b1 b2 b3 b4 HS.out _).mono ?_); rintro e w' ⟨rfl, hbw⟩)
                    obtain ⟨m2, rfl⟩ := grow_mk hbw
                    clear hbw
                    go_wp2_with fail
                    go_roundg (wn yh yl + wn (subHi xh xl yh yl) (subLo xl yl))
                    case measure => exact HM.out
                    case rel => exact ⟨_, _, _, _, ((((hg.grow m).setA (x := yh) (y := yl) rfl rfl b3 b4).setB (x := xh) (y := xl) rfl rfl b1 b2).grow m2).setB (x := subHi xh xl yh yl) (y := subLo xl yl) rfl rfl (sub_lt1 _ _ _ _ b1) (sub_lt2 _ _), GT', Nat.le_refl _⟩
                  · have HZ' := Lib.hid (show decide (wn yh yl < wn xh xl) = false by simpa using pl)
                    have GT' := GT.less b2 b4 (by omega)
                    have hw := wn_sub yh yl xh xl b4 b2 (by omega)
                    have hp := GT.pos
                    have HM := Lib.hid (show wn xh xl + wn (subHi yh yl xh xl) (subLo yl xl) < K by omega)
                    have HS := Lib.hid (show wn xh xl ≤ wn yh yl by omega)
                    clear pl hw hp
                    go_wp2_with fail
                    ((with_reducible refine (less_any yh yl xh xl _ b4 b2).mono ?_); rintro e w' ⟨rfl, hbw⟩)
                    obtain ⟨m, rfl⟩ := grow_mk hbw
                    clear hbw
                    rw [HZ'.out]
                    go_wp2_with fail
                    ((with_reducible refine (wsub_any yh yl xh xl b3 b4 b1 b2 HS.out _).mono ?_); rintro e w' ⟨rfl, hbw⟩)
                    obtain ⟨m2, rfl⟩ := grow_mk hbw
                    clear hbw
                    go_wp2_with fail
                    go_roundg (wn xh xl + wn (subHi yh yl xh xl) (subLo yl xl))
                    case measure => exact HM.out
                    case rel => exact ⟨_, _, _, _, ((hg.grow m).grow m2).setB (x := subHi yh yl xh xl) (y := subLo yl xl) rfl rfl (sub_lt1 _ _ _ _ b3) (sub_lt2 _ _), GT', Nat.le_refl _⟩

end Go.Proofs.Ytgjhaanpkfheeaa
