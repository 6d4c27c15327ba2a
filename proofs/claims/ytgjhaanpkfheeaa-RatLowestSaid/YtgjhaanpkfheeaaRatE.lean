/- Which of two is greater, in the program. -/
import Derived.Test.YtgjhaanpkfheeaaRatC
import Derived.Test.YtgjhaanpkfheeaaWideB
namespace Go.Proofs.Ytgjhaanpkfheeaa
set_option linter.unusedVariables false
set_option linter.unusedSimpArgs false
open Go.RowKit

/-- how two stand -/
def cmpR (a b : Rt) : Int := if sureB a && sureB b then cmpI a b else 0

theorem sureB_den {r : Rt} (h : sureB r = true) : 1 ≤ r.2 := by
  unfold sureB at h
  simp only [Bool.and_eq_true, decide_eq_true_eq] at h
  exact h.1.1
theorem sureB_num {r : Rt} (h : sureB r = true) : r.1 ≠ -9223372036854775808 := by
  unfold sureB at h
  simp only [Bool.and_eq_true, bne_iff_ne] at h
  exact h.1.2
theorem sureB_iff {r : Rt} : sureB r = true ↔ Sure r := by
  unfold sureB Sure
  simp only [Bool.and_eq_true, decide_eq_true_eq, bne_iff_ne, beq_iff_eq, and_assoc]

def cmpN (a b : Nat) : Int := if a < b then -1 else if b < a then 1 else 0

def cmp4 (ah al bh bl : Nat) : Int := if ah < bh ∨ ah = bh ∧ al < bl then -1 else if bh < ah ∨ bh = ah ∧ bl < al then 1 else 0
theorem cmpN_4 (a b : Nat) : cmpN a b = cmp4 (a / 18446744073709551616) (a % 18446744073709551616) (b / 18446744073709551616) (b % 18446744073709551616) := by
  unfold cmpN cmp4
  have h1 : (a < b) = (a / 18446744073709551616 < b / 18446744073709551616 ∨ a / 18446744073709551616 = b / 18446744073709551616 ∧ a % 18446744073709551616 < b % 18446744073709551616) := propext (by omega)
  have h2 : (b < a) = (b / 18446744073709551616 < a / 18446744073709551616 ∨ b / 18446744073709551616 = a / 18446744073709551616 ∧ b % 18446744073709551616 < a % 18446744073709551616) := propext (by omega)
  simp only [h1, h2]

theorem cmpI_cases {a b : Rt} (d1 : 1 ≤ a.2) (d2 : 1 ≤ b.2) : cmpI a b = (if a.1 < 0 then (if b.1 < 0 then cmpN (crossA b a) (crossA a b) else -1) else if b.1 < 0 then 1 else cmpN (crossA a b) (crossA b a)) := by
  by_cases s1 : a.1 < 0
  · by_cases s2 : b.1 < 0
    · rw [cmpI_neg d1 d2 s1 s2, if_pos s1, if_pos s2]; rfl
    · rw [cmpI_signs d1 d2 s1 s2, if_pos s1, if_neg s2]
  · by_cases s2 : b.1 < 0
    · rw [cmpI_signs' d1 d2 s1 s2, if_neg s1, if_pos s2]
    · rw [cmpI_pos d1 d2 s1 s2, if_neg s1, if_neg s2]; rfl

theorem ret_ib {k : IntKind} {a c : Int} {b d : Bool} (h1 : a = c) (h2 : b = d) : Ending.returned (.tuple #[.int k a, .bool b]) = .returned (.tuple #[.int k c, .bool d]) := by rw [h1, h2]

set_option maxHeartbeats 2000000 in
theorem cmp_any (a b : Rt) (w : World) (ha : Is64 a) (hb : Is64 b) :
    Calls Try.prog 24 #[rv a, rv b] w fun e w' => e = .returned (.tuple #[.int .i64 (cmpR a b), .bool (sureB a && sureB b)]) ∧ Below w.heap.size w w' := by
  have hs := fun w => sure_any a w ha
  have ht := fun w => sure_any b w hb
  unfold cmpR
  cases c1 : sureB a with
  | false =>
    rw [c1] at hs
    obtain ⟨n, d⟩ := a; obtain ⟨p, q⟩ := b
    have HS := Lib.hid hs
    clear hs ht c1
    go_enter Try.func24, Try.ntmps24
    go_wp2_with fail
    ((with_reducible refine (HS.out _).mono ?_); rintro e w' ⟨rfl, hbw⟩)
    obtain ⟨m, rfl⟩ := grow_mk hbw
    clear hbw
    go_wp2_with fail
    go_ret2
    exact ⟨ret_ib rfl rfl, below_grow ((below_box _ _).alloc (by simp) _) _⟩
  | true =>
    rw [c1] at hs
    have d1 := sureB_den c1
    have n1 := sureB_num c1
    cases c2 : sureB b with
    | false =>
      rw [c2] at ht
      obtain ⟨n, d⟩ := a; obtain ⟨p, q⟩ := b
      have HS := Lib.hid hs
      have HT := Lib.hid ht
      clear hs ht c1 c2
      go_enter Try.func24, Try.ntmps24
      go_wp2_with fail
      ((with_reducible refine (HS.out _).mono ?_); rintro e w' ⟨rfl, hbw⟩)
      obtain ⟨m, rfl⟩ := grow_mk hbw
      clear hbw
      go_wp2_with fail
      ((with_reducible refine (HT.out _).mono ?_); rintro e w' ⟨rfl, hbw⟩)
      obtain ⟨m2, rfl⟩ := grow_mk hbw
      clear hbw
      go_wp2_with fail
      go_ret2
      exact ⟨ret_ib rfl rfl, below_grow (below_grow ((below_box _ _).alloc (by simp) _) _) _⟩
    | true =>
      rw [c2] at ht
      have d2 := sureB_den c2
      have n2 := sureB_num c2
      obtain ⟨n, d⟩ := a; obtain ⟨p, q⟩ := b
      obtain ⟨b1, b2, b3, b4⟩ := ha
      obtain ⟨b5, b6, b7, b8⟩ := hb
      simp only at b1 b2 b3 b4 b5 b6 b7 b8 d1 n1 d2 n2
      have HS := Lib.hid hs
      have HT := Lib.hid ht
      have hx1 : d.toNat < 18446744073709551616 := by omega
      have hx2 : q.toNat < 18446744073709551616 := by omega
      have hy1 : n.natAbs < 18446744073709551616 := by omega
      have hy2 : p.natAbs < 18446744073709551616 := by omega
      have e1 : ((d.toNat : Nat) : Int) = d := by omega
      have e2 : ((q.toNat : Nat) : Int) = q := by omega
      have e3 : IntKind.u64.wrap d = d := by rw [IntKind.wrap_u64]; omega
      have e4 : IntKind.u64.wrap q = q := by rw [IntKind.wrap_u64]; omega
      have M1 := Lib.hid (fun w => e2 ▸ mul64_any n.natAbs q.toNat hy1 hx2 w)
      have M2 := Lib.hid (fun w => e1 ▸ mul64_any p.natAbs d.toNat hy2 hx1 w)
      clear e1 e2
      clear hs ht c1 c2
      have HC := Lib.hid (show cmpI (n, d) (p, q) = (if n < 0 then (if p < 0 then cmpN (p.natAbs * d.toNat) (n.natAbs * q.toNat) else -1) else if p < 0 then 1 else cmpN (n.natAbs * q.toNat) (p.natAbs * d.toNat)) by
        by_cases s1 : n < 0
        · by_cases s2 : p < 0
          · rw [cmpI_neg d1 d2 s1 s2, if_pos s1, if_pos s2]; rfl
          · rw [cmpI_signs d1 d2 s1 s2, if_pos s1, if_neg s2]
        · by_cases s2 : p < 0
          · rw [cmpI_signs' d1 d2 s1 s2, if_neg s1, if_pos s2]
          · rw [cmpI_pos d1 d2 s1 s2, if_neg s1, if_neg s2]; rfl)
      generalize cmpI (n, d) (p, q) = R at *
      generalize n.natAbs * q.toNat = X at *
      generalize p.natAbs * d.toNat = Y at *
      clear d1 d2
      rw [cmpN_4 X Y, cmpN_4 Y X] at HC
      generalize X / 18446744073709551616 = xh at *
      generalize X % 18446744073709551616 = xl at *
      generalize Y / 18446744073709551616 = yh at *
      generalize Y % 18446744073709551616 = yl at *
      by_cases s1 : n < 0 <;> by_cases s2 : p < 0
      · have g1 : decide (n < 0) = true := by simpa using s1
        have g2 : decide (p < 0) = true := by simpa using s2
        have HF := Lib.hid (HC.out.trans (by rw [if_pos s1, if_pos s2]))
        clear HC s1 s2
        go_enter Try.func24, Try.ntmps24
        go_wp2_with fail
        ((with_reducible refine (HS.out _).mono ?_); rintro e w' ⟨rfl, hbw⟩)
        obtain ⟨m, rfl⟩ := grow_mk hbw
        clear hbw
        go_wp2_with fail
        ((with_reducible refine (HT.out _).mono ?_); rintro e w' ⟨rfl, hbw⟩)
        obtain ⟨m2, rfl⟩ := grow_mk hbw
        clear hbw
        go_wp2_with fail
        refine wp_region_grow (by kernel_rfl) (by kernel_rfl) ?_
        repeat (go_big_quiet_step ((first | (go_at_call 64; exact calls_grow_same (size_any n _ b1 b2)) | (go_at_call 68; exact calls_grow_same (M1.out _)))))
        refine wpQuiet_nil ?_
        rintro _ ⟨m3, rfl⟩
        go_wp2_with fail
        refine wp_region_grow (by kernel_rfl) (by kernel_rfl) ?_
        repeat (go_big_quiet_step ((first | (go_at_call 64; exact calls_grow_same (size_any p _ b5 b6)) | (go_at_call 68; exact calls_grow_same (M2.out _)))))
        refine wpQuiet_nil ?_
        rintro _ ⟨m4, rfl⟩
        rw [grow_grow]
        clear HS HT M1 M2
        rcases Nat.lt_trichotomy xh yh with c | c | c
        · have g3 : decide ((xh : Int) < (yh : Int)) = true := by first | (simp; omega) | simp
          have k3 : decide (xh < yh) = true := by first | (simp; omega) | simp
          have HF := Lib.hid (HF.out.trans (show _ = (1 : Int) by unfold cmp4; rw [if_neg (by omega), if_pos (by omega)]))
          go_wp2_with fail
          go_ret2
          exact ⟨ret_ib HF.out.symm rfl, below_grow ((below_box _ _).alloc (by simp) _) _⟩
        · subst c
          rcases Nat.lt_trichotomy xl yl with c | c | c
          · have g3 : decide ((xh : Int) < (xh : Int)) = false := by first | (simp; omega) | simp
            have k3 : decide (xh < xh) = false := by first | (simp; omega) | simp
            have g4 : ((xh : Int) == (xh : Int)) = true := by first | (simp; omega) | simp
            have k4 : (xh == xh) = true := by first | (simp; omega) | simp
            have g5 : ((xh : Int) != (xh : Int)) = false := by first | (simp; omega) | simp
            have k5 : (xh != xh) = false := by first | (simp; omega) | simp
            have g6 : decide ((xl : Int) < (yl : Int)) = true := by first | (simp; omega) | simp
            have k6 : decide (xl < yl) = true := by first | (simp; omega) | simp
            have HF := Lib.hid (HF.out.trans (show _ = (1 : Int) by unfold cmp4; rw [if_neg (by omega), if_pos (by omega)]))
            go_wp2_with fail
            go_ret2
            exact ⟨ret_ib HF.out.symm rfl, below_grow ((below_box _ _).alloc (by simp) _) _⟩
          · subst c
            have g3 : decide ((xh : Int) < (xh : Int)) = false := by first | (simp; omega) | simp
            have k3 : decide (xh < xh) = false := by first | (simp; omega) | simp
            have g4 : ((xh : Int) == (xh : Int)) = true := by first | (simp; omega) | simp
            have k4 : (xh == xh) = true := by first | (simp; omega) | simp
            have g5 : ((xh : Int) != (xh : Int)) = false := by first | (simp; omega) | simp
            have k5 : (xh != xh) = false := by first | (simp; omega) | simp
            have g6 : decide ((xl : Int) < (xl : Int)) = false := by first | (simp; omega) | simp
            have k6 : decide (xl < xl) = false := by first | (simp; omega) | simp
            have g7 : ((xl : Int) != (xl : Int)) = false := by first | (simp; omega) | simp
            have k7 : (xl != xl) = false := by first | (simp; omega) | simp
            have HF := Lib.hid (HF.out.trans (show _ = (0 : Int) by unfold cmp4; rw [if_neg (by omega), if_neg (by omega)]))
            go_wp2_with fail
            go_ret2
            exact ⟨ret_ib HF.out.symm rfl, below_grow ((below_box _ _).alloc (by simp) _) _⟩
          · have g3 : decide ((xh : Int) < (xh : Int)) = false := by first | (simp; omega) | simp
            have k3 : decide (xh < xh) = false := by first | (simp; omega) | simp
            have g4 : ((xh : Int) == (xh : Int)) = true := by first | (simp; omega) | simp
            have k4 : (xh == xh) = true := by first | (simp; omega) | simp
            have g5 : ((xh : Int) != (xh : Int)) = false := by first | (simp; omega) | simp
            have k5 : (xh != xh) = false := by first | (simp; omega) | simp
            have g6 : decide ((xl : Int) < (yl : Int)) = false := by first | (simp; omega) | simp
            have k6 : decide (xl < yl) = false := by first | (simp; omega) | simp
            have g7 : ((xl : Int) != (yl : Int)) = true := by first | (simp; omega) | simp
            have k7 : (xl != yl) = true := by first | (simp; omega) | simp
            have HF := Lib.hid (HF.out.trans (show _ = (-1 : Int) by unfold cmp4; rw [if_pos (by omega)]))
            go_wp2_with fail
            go_ret2
            exact ⟨ret_ib HF.out.symm rfl, below_grow ((below_box _ _).alloc (by simp) _) _⟩
        · have g3 : decide ((xh : Int) < (yh : Int)) = false := by first | (simp; omega) | simp
          have k3 : decide (xh < yh) = false := by first | (simp; omega) | simp
          have g4 : ((xh : Int) == (yh : Int)) = false := by first | (simp; omega) | simp
          have k4 : (xh == yh) = false := by first | (simp; omega) | simp
          have g5 : ((xh : Int) != (yh : Int)) = true := by first | (simp; omega) | simp
          have k5 : (xh != yh) = true := by first | (simp; omega) | simp
          have HF := Lib.hid (HF.out.trans (show _ = (-1 : Int) by unfold cmp4; rw [if_pos (by omega)]))
          go_wp2_with fail
          go_ret2
          exact ⟨ret_ib HF.out.symm rfl, below_grow ((below_box _ _).alloc (by simp) _) _⟩
      · have g1 : decide (n < 0) = true := by simpa using s1
        have g2 : decide (p < 0) = false := by simpa using s2
        have HF := Lib.hid (HC.out.trans (by rw [if_pos s1, if_neg s2]))
        clear HC s1 s2
        go_enter Try.func24, Try.ntmps24
        go_wp2_with fail
        ((with_reducible refine (HS.out _).mono ?_); rintro e w' ⟨rfl, hbw⟩)
        obtain ⟨m, rfl⟩ := grow_mk hbw
        clear hbw
        go_wp2_with fail
        ((with_reducible refine (HT.out _).mono ?_); rintro e w' ⟨rfl, hbw⟩)
        obtain ⟨m2, rfl⟩ := grow_mk hbw
        clear hbw
        go_wp2_with fail
        go_ret2
        exact ⟨ret_ib HF.out.symm rfl, below_grow (below_grow ((below_box _ _).alloc (by simp) _) _) _⟩
      · have g1 : decide (n < 0) = false := by simpa using s1
        have g2 : decide (p < 0) = true := by simpa using s2
        have HF := Lib.hid (HC.out.trans (by rw [if_neg s1, if_pos s2]))
        clear HC s1 s2
        go_enter Try.func24, Try.ntmps24
        go_wp2_with fail
        ((with_reducible refine (HS.out _).mono ?_); rintro e w' ⟨rfl, hbw⟩)
        obtain ⟨m, rfl⟩ := grow_mk hbw
        clear hbw
        go_wp2_with fail
        ((with_reducible refine (HT.out _).mono ?_); rintro e w' ⟨rfl, hbw⟩)
        obtain ⟨m2, rfl⟩ := grow_mk hbw
        clear hbw
        go_wp2_with fail
        go_ret2
        exact ⟨ret_ib HF.out.symm rfl, below_grow (below_grow ((below_box _ _).alloc (by simp) _) _) _⟩
      · have g1 : decide (n < 0) = false := by simpa using s1
        have g2 : decide (p < 0) = false := by simpa using s2
        have HF := Lib.hid (HC.out.trans (by rw [if_neg s1, if_neg s2]))
        clear HC s1 s2
        go_enter Try.func24, Try.ntmps24
        go_wp2_with fail
        ((with_reducible refine (HS.out _).mono ?_); rintro e w' ⟨rfl, hbw⟩)
        obtain ⟨m, rfl⟩ := grow_mk hbw
        clear hbw
        go_wp2_with fail
        ((with_reducible refine (HT.out _).mono ?_); rintro e w' ⟨rfl, hbw⟩)
        obtain ⟨m2, rfl⟩ := grow_mk hbw
        clear hbw
        go_wp2_with fail
        refine wp_region_grow (by kernel_rfl) (by kernel_rfl) ?_
        repeat (go_big_quiet_step ((first | (go_at_call 64; exact calls_grow_same (size_any n _ b1 b2)) | (go_at_call 68; exact calls_grow_same (M1.out _)))))
        refine wpQuiet_nil ?_
        rintro _ ⟨m3, rfl⟩
        go_wp2_with fail
        refine wp_region_grow (by kernel_rfl) (by kernel_rfl) ?_
        repeat (go_big_quiet_step ((first | (go_at_call 64; exact calls_grow_same (size_any p _ b5 b6)) | (go_at_call 68; exact calls_grow_same (M2.out _)))))
        refine wpQuiet_nil ?_
        rintro _ ⟨m4, rfl⟩
        rw [grow_grow]
        clear HS HT M1 M2
        rcases Nat.lt_trichotomy xh yh with c | c | c
        · have g3 : decide ((xh : Int) < (yh : Int)) = true := by first | (simp; omega) | simp
          have k3 : decide (xh < yh) = true := by first | (simp; omega) | simp
          have HF := Lib.hid (HF.out.trans (show _ = (-1 : Int) by unfold cmp4; rw [if_pos (by omega)]))
          go_wp2_with fail
          go_ret2
          exact ⟨ret_ib HF.out.symm rfl, below_grow ((below_box _ _).alloc (by simp) _) _⟩
        · subst c
          rcases Nat.lt_trichotomy xl yl with c | c | c
          · have g3 : decide ((xh : Int) < (xh : Int)) = false := by first | (simp; omega) | simp
            have k3 : decide (xh < xh) = false := by first | (simp; omega) | simp
            have g4 : ((xh : Int) == (xh : Int)) = true := by first | (simp; omega) | simp
            have k4 : (xh == xh) = true := by first | (simp; omega) | simp
            have g5 : ((xh : Int) != (xh : Int)) = false := by first | (simp; omega) | simp
            have k5 : (xh != xh) = false := by first | (simp; omega) | simp
            have g6 : decide ((xl : Int) < (yl : Int)) = true := by first | (simp; omega) | simp
            have k6 : decide (xl < yl) = true := by first | (simp; omega) | simp
            have HF := Lib.hid (HF.out.trans (show _ = (-1 : Int) by unfold cmp4; rw [if_pos (by omega)]))
            go_wp2_with fail
            go_ret2
            exact ⟨ret_ib HF.out.symm rfl, below_grow ((below_box _ _).alloc (by simp) _) _⟩
          · subst c
            have g3 : decide ((xh : Int) < (xh : Int)) = false := by first | (simp; omega) | simp
            have k3 : decide (xh < xh) = false := by first | (simp; omega) | simp
            have g4 : ((xh : Int) == (xh : Int)) = true := by first | (simp; omega) | simp
            have k4 : (xh == xh) = true := by first | (simp; omega) | simp
            have g5 : ((xh : Int) != (xh : Int)) = false := by first | (simp; omega) | simp
            have k5 : (xh != xh) = false := by first | (simp; omega) | simp
            have g6 : decide ((xl : Int) < (xl : Int)) = false := by first | (simp; omega) | simp
            have k6 : decide (xl < xl) = false := by first | (simp; omega) | simp
            have g7 : ((xl : Int) != (xl : Int)) = false := by first | (simp; omega) | simp
            have k7 : (xl != xl) = false := by first | (simp; omega) | simp
            have HF := Lib.hid (HF.out.trans (show _ = (0 : Int) by unfold cmp4; rw [if_neg (by omega), if_neg (by omega)]))
            go_wp2_with fail
            go_ret2
            exact ⟨ret_ib HF.out.symm rfl, below_grow ((below_box _ _).alloc (by simp) _) _⟩
          · have g3 : decide ((xh : Int) < (xh : Int)) = false := by first | (simp; omega) | simp
            have k3 : decide (xh < xh) = false := by first | (simp; omega) | simp
            have g4 : ((xh : Int) == (xh : Int)) = true := by first | (simp; omega) | simp
            have k4 : (xh == xh) = true := by first | (simp; omega) | simp
            have g5 : ((xh : Int) != (xh : Int)) = false := by first | (simp; omega) | simp
            have k5 : (xh != xh) = false := by first | (simp; omega) | simp
            have g6 : decide ((xl : Int) < (yl : Int)) = false := by first | (simp; omega) | simp
            have k6 : decide (xl < yl) = false := by first | (simp; omega) | simp
            have g7 : ((xl : Int) != (yl : Int)) = true := by first | (simp; omega) | simp
            have k7 : (xl != yl) = true := by first | (simp; omega) | simp
            have HF := Lib.hid (HF.out.trans (show _ = (1 : Int) by unfold cmp4; rw [if_neg (by omega), if_pos (by omega)]))
            go_wp2_with fail
            go_ret2
            exact ⟨ret_ib HF.out.symm rfl, below_grow ((below_box _ _).alloc (by simp) _) _⟩
        · have g3 : decide ((xh : Int) < (yh : Int)) = false := by first | (simp; omega) | simp
          have k3 : decide (xh < yh) = false := by first | (simp; omega) | simp
          have g4 : ((xh : Int) == (yh : Int)) = false := by first | (simp; omega) | simp
          have k4 : (xh == yh) = false := by first | (simp; omega) | simp
          have g5 : ((xh : Int) != (yh : Int)) = true := by first | (simp; omega) | simp
          have k5 : (xh != yh) = true := by first | (simp; omega) | simp
          have HF := Lib.hid (HF.out.trans (show _ = (1 : Int) by unfold cmp4; rw [if_neg (by omega), if_pos (by omega)]))
          go_wp2_with fail
          go_ret2
          exact ⟨ret_ib HF.out.symm rfl, below_grow ((below_box _ _).alloc (by simp) _) _⟩

end Go.Proofs.Ytgjhaanpkfheeaa
