/- Of my texts: PlainP. -/
import Derived.Test.YtplnhjmomomphaaGreatDoorM24
import Derived.Test.YtplnhjmomomphaaGreatDoorM27
import Derived.Deep.RegionHeld
import Derived.Shelf.Spec.TrailingZeros
namespace Go.Proofs.YtplnhjmomomphaaGreatDoor
set_option linter.unusedVariables false
set_option linter.unusedSimpArgs false
open Go.RowKit Go.Lib Go.Shelf
set_option maxRecDepth 100000 in
def Tryz.laysTZ_ren : Ren := ⟨fun x => if x = 29 then 74 else x, fun x => if x = 22 then 93 else if x = 3 then 3 else if x = 4 then 4 else if x = 25 then 110 else if x = 54 then 139 else if x = 0 then 0 else if x = 5 then 5 else x, fun x => if x = 1 then 1 else x⟩
set_option maxRecDepth 100000 in
theorem Tryz.laysTZ : Lays7.n29 Tryz.prog Tryz.laysTZ_ren := {
 mixed := (by kernel_rfl),
 f29 := Tryz.func74.trans (congrArg some (by kernel_rfl)),
 t0 := Tryz.underlying0,
 a0 := Tryz.isAgg0,
 z0 := Tryz.sizeOf0,
 v0 := Tryz.zeroValue0,
 i0 := (by kernel_rfl),
 t3 := Tryz.underlying3,
 a3 := Tryz.isAgg3,
 z3 := Tryz.sizeOf3,
 v3 := Tryz.zeroValue3,
 i3 := (by kernel_rfl),
 t4 := Tryz.underlying4,
 a4 := Tryz.isAgg4,
 z4 := Tryz.sizeOf4,
 v4 := Tryz.zeroValue4,
 i4 := (by kernel_rfl),
 t5 := Tryz.underlying5,
 a5 := Tryz.isAgg5,
 z5 := Tryz.sizeOf5,
 v5 := Tryz.zeroValue5,
 i5 := (by kernel_rfl),
 t22 := Tryz.underlying93,
 a22 := Tryz.isAgg93,
 z22 := Tryz.sizeOf93,
 v22 := Tryz.zeroValue93,
 i22 := (by kernel_rfl),
 t25 := Tryz.underlying110,
 a25 := Tryz.isAgg110,
 z25 := Tryz.sizeOf110,
 v25 := Tryz.zeroValue110,
 i25 := (by kernel_rfl),
 t54 := Tryz.underlying139,
 a54 := Tryz.isAgg139,
 z54 := Tryz.sizeOf139,
 g1 := (by kernel_rfl) }
theorem odd_pow {a b x y : Nat} (hx : x % 2 ≠ 0) (hy : y % 2 ≠ 0) (h : 2 ^ a * x = 2 ^ b * y) : a = b := by
 induction a generalizing b with
 | zero =>
   cases b with
   | zero => rfl
   | succ b =>
     rw [Nat.pow_zero, Nat.one_mul, Nat.pow_succ, Nat.mul_comm (2 ^ b) 2, Nat.mul_assoc] at h
     omega
 | succ a ih =>
   cases b with
   | zero =>
     rw [Nat.pow_zero, Nat.one_mul, Nat.pow_succ, Nat.mul_comm (2 ^ a) 2, Nat.mul_assoc] at h
     omega
   | succ b =>
     rw [Nat.pow_succ, Nat.mul_comm (2 ^ a) 2, Nat.mul_assoc, Nat.pow_succ, Nat.mul_comm (2 ^ b) 2, Nat.mul_assoc] at h
     rw [ih (b := b) (by omega)]
theorem ctz_parts {t x : Nat} (hx : x % 2 ≠ 0) (h : 2 ^ t * x < 18446744073709551616) : ctz 64 (2 ^ t * x) = t := by
 have h0 : 0 < 2 ^ t * x := Nat.mul_pos (Nat.pow_pos (by decide)) (by omega)
 unfold ctz
 rw [if_neg (by omega)]
 obtain ⟨m, hm, _⟩ := ctzFrom_spec 64 (2 ^ t * x) h0 h
 exact (odd_pow (y := 2 * m + 1) hx (by omega) hm).symm
/-- the table of the trailing noughts -/
def Deb (w : World) : Prop := TabAt 1 Lib.deBruijn64tab w
theorem Deb.below {w w' : World} (h : Deb w) (hb : Below w.heap.size w w') : Deb w' := by
 intro j hj
 have h1 := h j hj
 exact (hb.cell (World.block_lt_of_cell? w _ h1)).trans h1
set_option maxRecDepth 20000 in
set_option maxHeartbeats 4000000 in
theorem powers_any (t f m : Nat) (w : World) (hm2 : m % 2 ≠ 0) (hm5 : m % 5 ≠ 0) (hn : 2 ^ t * (5 ^ f * m) ≤ 9223372036854775807) (hd : Deb w) :
 Calls Tryz.prog 54 #[.int .u64 (2 ^ t * (5 ^ f * m) : Nat)] w fun e w' => e = .returned (.tuple #[.int .i64 t, .int .i64 f, .bool (decide (m = 1))]) ∧ Below w.heap.size w w' := by
 have hz : ∀ W, Deb W → Calls Tryz.prog 74 #[.int .u64 (2 ^ t * (5 ^ f * m) : Nat)] W fun e w' => e = .returned (.int .i64 t) ∧ w' = W := fun W h => by
  have h1 := Any7.bits_TrailingZeros64 Tryz.laysTZ (2 ^ t * (5 ^ f * m)) (by omega) W (fun _ => h)
  rw [ctz_parts (five_two f m hm2) (by omega)] at h1
  exact h1
 obtain ⟨ht, hf⟩ := parts_few hn (by omega)
 obtain ⟨o, ho⟩ : ∃ o, decide (m = 1) = o := ⟨_, rfl⟩
 rw [ho]
 have HO := Lib.hid ho
 clear ho
 have hsh : 2 ^ t * (5 ^ f * m) / 2 ^ t = 5 ^ f * m := Nat.mul_div_cancel_left _ (Nat.pow_pos (by decide))
 have hx63 : 5 ^ f * m ≤ 9223372036854775807 := Nat.le_trans (Nat.le_mul_of_pos_left _ (Nat.pow_pos (by decide))) hn
 obtain ⟨x, hx⟩ : ∃ x, 5 ^ f * m = x := ⟨_, rfl⟩
 rw [hx] at hz hn hsh hx63
 have hx1 : 1 ≤ x := by rw [← hx]; exact Nat.mul_pos (Nat.pow_pos (by decide)) (by omega)
 obtain ⟨n, hne⟩ : ∃ n, 2 ^ t * x = n := ⟨_, rfl⟩
 rw [hx, hne]
 rw [hne] at hz hn hsh
 have ish : (n : Int) / 2 ^ t = (x : Int) := by rw [cast_shr, hsh]
 have HZ := Lib.hid (hz w hd)
 have HX := Lib.hid hx
 clear hz hx hne hsh hd
 go_enter Tryz.func54, Tryz.ntmps54
 go_wp2_with fail
 ((with_reducible refine (HZ.out).mono ?_); rintro e w' ⟨rfl, rfl⟩)
 go_wp2_with fail
 go_loopg [0, 6] x (fun k s0 s6 wr => ∃ (y i : Nat), s0 = .int .u64 y ∧ s6 = .int .i64 i ∧ wr = w' ∧ i ≤ f ∧ Hid (5 ^ (f - i) * m = y) ∧ 1 ≤ y ∧ y ≤ 9223372036854775807 ∧ y ≤ k)
 case atStart => exact ⟨x, 0, rfl, rfl, rfl, by omega, Lib.hid HX.out, hx1, hx63, Nat.le_refl _⟩
 case round =>
  obtain ⟨y, i, rfl, rfl, rfl, hi, hy, y1, y2, hk⟩ := hrel
  obtain ⟨r, hr⟩ : ∃ r, y % 5 = r := ⟨_, rfl⟩
  obtain ⟨q, hq⟩ : ∃ q, y / 5 = q := ⟨_, rfl⟩
  have ir : (y : Int) % 5 = (r : Int) := by omega
  have iq : (y : Int) / 5 = (q : Int) := by omega
  by_cases h5 : i < f
  · have hy5 : y = 5 * (5 ^ (f - (i + 1)) * m) := by
     rw [← hy.out, show f - i = (f - (i + 1)) + 1 by omega, Nat.pow_succ, Nat.mul_comm (5 ^ (f - (i + 1))) 5, Nat.mul_assoc]
    obtain ⟨z, hz⟩ : ∃ z, 5 ^ (f - (i + 1)) * m = z := ⟨_, rfl⟩
    rw [hz] at hy5
    obtain rfl : r = 0 := by omega
    obtain rfl : q = z := by omega
    have HQ := Lib.hid hz
    clear hz hy hr hq hy5
    go_wp2_with fail
    go_roundg q
    case measure => omega
    case rel => exact ⟨q, i + 1, rfl, by go_num, rfl, h5, HQ, by omega, by omega, Nat.le_refl _⟩
  · obtain rfl : i = f := by omega
    have hym : m = y := by
     have := hy.out
     rwa [Nat.sub_self, Nat.pow_zero, Nat.one_mul] at this
    subst hym
    have gr : ((r : Int) == 0) = false := by simp; omega
    have hone : ((m : Int) == 1) = o := by
     rw [← HO.out]
     by_cases h : m = 1
     · subst h; rfl
     · rw [decide_eq_false h, beq_eq_false_iff_ne]; omega
    clear HO
    clear hr hq hy
    go_wp2_with fail
    exact bodyPost_ret (v := .tuple #[.int .i64 t, .int .i64 i, .bool o]) (by simp [results, Tryz.results54, go_sem]) rfl ⟨rfl, (Below.refl _ _)⟩
end Go.Proofs.YtplnhjmomomphaaGreatDoor
