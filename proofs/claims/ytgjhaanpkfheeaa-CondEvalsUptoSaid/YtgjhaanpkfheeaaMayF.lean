/- Which expressions may be: the reference's word, and both functions from without. -/
import Derived.Test.YtgjhaanpkfheeaaMayE
namespace Go.Proofs.Ytgjhaanpkfheeaa
set_option linter.unusedVariables false
set_option linter.unusedSimpArgs false
open Go.RowKit

theorem way_ok {k : Int} {L : Nat} (h1 : 1 < k) (h8 : k ≤ 8) (ha : arity k L = true) :
    ((k == 3) = true ∧ ((L : Int) == 1) = true ∧ ((L : Int) != 1) = false ∧ (k == 8) = false ∧ ((L : Int) == 0) = false) ∨ ((k == 3) = false ∧ (k == 5) = true ∧ ((L : Int) == 1) = true ∧ ((L : Int) != 1) = false ∧ (k == 8) = false ∧ ((L : Int) == 0) = false) ∨
      ((k == 3) = false ∧ (k == 5) = false ∧ (k == 8) = true ∧ ((L : Int) == 3) = true ∧ ((L : Int) != 3) = false ∧ ((L : Int) == 0) = false) ∨ ((k == 3) = false ∧ (k == 5) = false ∧ (k == 8) = false ∧ ((L : Int) == 0) = false) := by
  by_cases c : k = 2 ∨ k = 4 ∨ k = 6 ∨ k = 7
  · rw [arity_many c] at ha
    simp only [decide_eq_true_eq, beq_iff_eq, beq_eq_false_iff_ne, bne_eq_false_iff_eq] at ha ⊢; omega
  by_cases c2 : k = 3 ∨ k = 5
  · rw [arity_one c2] at ha
    simp only [decide_eq_true_eq, beq_iff_eq, beq_eq_false_iff_ne, bne_eq_false_iff_eq] at ha ⊢; omega
  by_cases c3 : k = 8
  · rw [arity_three c3] at ha
    simp only [decide_eq_true_eq, beq_iff_eq, beq_eq_false_iff_ne, bne_eq_false_iff_eq] at ha ⊢; omega
  · omega
theorem way_no {k : Int} {L : Nat} (h1 : 1 < k) (h8 : k ≤ 8) (ha : arity k L = false) :
    (((L : Int) == 0) = true) ∨ (((L : Int) == 0) = false ∧ (k == 3) = true ∧ ((L : Int) == 1) = false ∧ ((L : Int) != 1) = true) ∨ (((L : Int) == 0) = false ∧ (k == 3) = false ∧ (k == 5) = true ∧ ((L : Int) == 1) = false ∧ ((L : Int) != 1) = true) ∨
      (((L : Int) == 0) = false ∧ (k == 3) = false ∧ (k == 5) = false ∧ (k == 8) = true ∧ ((L : Int) == 3) = false ∧ ((L : Int) != 3) = true) := by
  by_cases c : k = 2 ∨ k = 4 ∨ k = 6 ∨ k = 7
  · rw [arity_many c] at ha
    simp only [decide_eq_false_iff_not, beq_iff_eq, beq_eq_false_iff_ne, bne_iff_ne] at ha ⊢; omega
  by_cases c2 : k = 3 ∨ k = 5
  · rw [arity_one c2] at ha
    simp only [decide_eq_true_eq, beq_iff_eq, beq_eq_false_iff_ne, bne_iff_ne] at ha ⊢; omega
  by_cases c3 : k = 8
  · rw [arity_three c3] at ha
    simp only [decide_eq_true_eq, beq_iff_eq, beq_eq_false_iff_ne, bne_iff_ne] at ha ⊢; omega
  · omega

set_option maxRecDepth 20000 in
set_option maxHeartbeats 4000000 in
theorem rmayE_any : ∀ (f h : Nat) (e : Ex) (w : World) (D : Int), D = (f : Int) → f ≤ 340 → ExIn w h e →
    Calls Try.prog 137 #[xv e, .int .i64 D] w fun x w' => x = .returned (.bool (mayE f e)) ∧ Below w.heap.size w w' := by
  intro f
  induction f with
  | zero =>
    intro h e w D hD _ hx
    obtain ⟨k, n, d, u, oa, b, o, cap, kids⟩ := e
    have g : D = 0 := by omega
    subst g
    clear hx hD
    rw [xv_mk]
    go_enter Try.func137, Try.ntmps137
    go_wp2_with fail
    go_ret
    exact ⟨rfl, below_box _ _⟩
  | succ f ih =>
    intro h e w D hD hf hx
    obtain _ | h := h
    · exact hx.elim
    obtain ⟨k, n, d, u, oa, b, o, cap, kids⟩ := e
    obtain ⟨h1, h2, h3, h4, h5, h6, h7, h8⟩ := hx
    have hD1 : D ≤ 340 := by omega
    have hD0 : 1 ≤ D := by omega
    have gD : (D == 0) = false := by simp; omega
    have HIH := Lib.hid (fun x wx (hx : ExIn wx h x) => ih h x wx (D - 1) (by omega) (by omega) hx)
    have HM := Lib.hid (fun w => rmay_any (n, d) w h2)
    clear ih hD hf
    have hsm : kids.length ≤ 9223372036854775807 := Nat.le_trans (Nat.le_trans h4 h5) (by decide)
    rw [xv_mk]
    by_cases hr : k < 1 ∨ 8 < k
    · have HF := Lib.hid (show mayE (f + 1) (.mk k n d u oa b o cap kids) = false by
        unfold mayE
        rw [if_neg (by omega), arity_none (by omega) (by omega) (by omega), Bool.and_false]; rfl)
      clear HIH HM h7 h8
      have ways : (decide (k < 1) = true) ∨ (decide (k < 1) = false ∧ decide (8 < k) = true) := by simp; omega
      clear hr
      rcases ways with e1 | ⟨e1, e2⟩
      all_goals
        go_enter Try.func137, Try.ntmps137
        go_wp2_with fail
        go_ret
        exact ⟨ret_bool HF.out.symm, below_box _ _⟩
    have r1 : decide (k < 1) = false := by simp; omega
    have r2 : decide (8 < k) = false := by simp; omega
    by_cases hk : k = 1
    · subst hk
      clear hr r1 r2
      obtain ⟨b1, g1⟩ : ∃ b, ((kids.length : Int) == 0) = b := ⟨_, rfl⟩
      obtain ⟨b2, g2⟩ : ∃ b, decide ((0 : Int) ≤ u) = b := ⟨_, rfl⟩
      obtain ⟨b3, g3⟩ : ∃ b, decide (u ≤ (7 : Int)) = b := ⟨_, rfl⟩
      have HF := Lib.hid (show mayE (f + 1) (.mk 1 n d u oa b o cap kids) = (b1 && mayB (n, d) && b2 && b3) by
        rw [← g1, ← g2, ← g3]
        unfold mayE
        rw [if_pos rfl, show decide (kids.length = 0) = ((kids.length : Int) == 0) by rw [Bool.eq_iff_iff]; simp])
      clear h7 h8 HIH h1 h3
      generalize mayB (n, d) = mb at *
      have ways : b1 = false ∨ b1 = true ∧ mb = false ∨ b1 = true ∧ mb = true ∧ b2 = false ∨ b1 = true ∧ mb = true ∧ b2 = true := by cases b1 <;> cases mb <;> cases b2 <;> simp
      rcases ways with rfl | ⟨rfl, rfl⟩ | ⟨rfl, rfl, rfl⟩ | ⟨rfl, rfl, rfl⟩
      · go_enter Try.func137, Try.ntmps137
        go_wp2_with fail
        go_ret
        exact ⟨ret_bool (by rw [HF.out]; rfl), below_box _ _⟩
      all_goals
        go_enter Try.func137, Try.ntmps137
        go_wp2_with fail
        ((with_reducible refine (HM.out _).mono ?_); rintro e w' ⟨rfl, hbw⟩)
        obtain ⟨m, rfl⟩ := grow_mk hbw
        clear hbw
        go_wp2_with fail
        go_ret
        exact ⟨ret_bool (by rw [HF.out]; rfl), below_grow (below_box _ _) m⟩
    have gk : (k == 1) = false := by simpa using hk
    by_cases hz : n = 0 ∧ d = 0 ∧ u = 0
    · obtain ⟨rfl, rfl, rfl⟩ := hz
      have HF0 : mayE (f + 1) (.mk k 0 0 0 oa b o cap kids) = (arity k kids.length && kids.all (mayE f)) := by
        unfold mayE
        rw [if_neg hk]
        rfl
      clear HM
      by_cases ha : arity k kids.length = true
      · have HF := Lib.hid (show mayE (f + 1) (.mk k 0 0 0 oa b o cap kids) = kids.all (mayE f) by rw [HF0, ha]; rfl)
        have ways := way_ok (by omega) (by omega) ha
        clear HF0 ha hr hk
        rcases ways with ⟨e1, e2, e3, e4, e6⟩ | ⟨e1, e2, e3, e4, e5, e6⟩ | ⟨e1, e2, e3, e4, e5, e6⟩ | ⟨e1, e2, e3, e4⟩
        all_goals
          go_enter Try.func137, Try.ntmps137
          go_wp2_with fail
          go_loopg [82] kids.length (fun kk s wr => ∃ (i : Nat), s = .int .i64 i ∧ Hid (Gk w wr 45 #[.int .i64 k, .int .i64 0, .int .i64 0, .int .i64 0, .slice oa kids.length cap]) ∧ i ≤ kids.length ∧ Hid ((kids.drop i).all (mayE f) = kids.all (mayE f)) ∧ kids.length - i ≤ kk)
          case atStart => exact ⟨0, rfl, Lib.hid ⟨below_box _ _, Blk.new _ _ _⟩, Nat.zero_le _, Lib.hid rfl, by omega⟩
          case round =>
            obtain ⟨i, rfl, hg, hle, hl, hk2⟩ := hrel
            have hbel := Lib.hid hg.out.below
            by_cases hi : i < kids.length
            · have gi : decide ((i : Int) < kids.length) = true := by simpa using hi
              have hr : kids[i]? = some kids[i] := List.getElem?_eq_getElem hi
              have hx := h8 i _ hr
              have hlaw := hl.out
              rw [all_drop hr] at hlaw
              obtain ⟨rfl, hbl⟩ := h7 (by omega)
              generalize kids[i] = x at *
              have hX := fun wx hb => HIH.out x wx (hx.2.below (w' := wx) _ hb)
              obtain ⟨k', n', d', u', oa', b', o', cap', kids'⟩ := x
              simp only [xv_mk] at hX
              have HX := Lib.hid hX
              clear hX
              generalize mayE f (.mk k' n' d' u' oa' b' o' cap' kids') = M at *
              have f0 : wr.cell? ⟨b, o + i * 5, none⟩ = some (.int .i64 k') := (hg.out.below.cell hbl).trans (hx.1 0 _ rfl)
              have f1 : wr.cell? ⟨b, o + i * 5 + 1, none⟩ = some (.int .i64 n') := (hg.out.below.cell hbl).trans (hx.1 1 _ rfl)
              have f2 : wr.cell? ⟨b, o + i * 5 + 2, none⟩ = some (.int .i64 d') := (hg.out.below.cell hbl).trans (hx.1 2 _ rfl)
              have f3 : wr.cell? ⟨b, o + i * 5 + 3, none⟩ = some (.int .i64 u') := (hg.out.below.cell hbl).trans (hx.1 3 _ rfl)
              have f4 : wr.cell? ⟨b, o + i * 5 + 4, none⟩ = some (.slice oa' kids'.length cap') := (hg.out.below.cell hbl).trans (hx.1 4 _ rfl)
              have HL := Lib.hid hlaw
              clear hx hlaw hl hr h8 h7
              go_wp2_with fail
              ((with_reducible refine (HX.out _ (hbel.out.alloc hbel.out.size _)).mono ?_); rintro e w' ⟨rfl, hbw⟩)
              obtain ⟨m, rfl⟩ := grow_mk hbw
              clear hbw
              cases M with
              | true =>
                go_wp2_with fail
                go_roundg (kids.length - (i + 1))
                case measure => omega
                case rel => exact ⟨i + 1, by go_num, Lib.hid ⟨below_grow (hbel.out.alloc hbel.out.size _) m, (hg.out.box.old _).grow m⟩, hi, Lib.hid (by rw [← HL.out]; rfl), by omega⟩
              | false =>
                go_wp2_with fail
                go_ret
                exact ⟨ret_bool (by rw [HF.out, ← HL.out]; rfl), below_grow (hbel.out.alloc hbel.out.size _) m⟩
            · obtain rfl : i = kids.length := by omega
              have hlaw := hl.out
              rw [List.drop_length] at hlaw
              have HL := Lib.hid hlaw
              clear hlaw hl
              go_wp2_with fail
              go_ret
              exact ⟨ret_bool (by rw [HF.out, ← HL.out]; rfl), hbel.out⟩
      · have HF := Lib.hid (show mayE (f + 1) (.mk k 0 0 0 oa b o cap kids) = false by rw [HF0, eq_false_of_ne_true ha]; rfl)
        have ways := way_no (by omega) (by omega) (eq_false_of_ne_true ha)
        clear HF0 ha hr hk HIH h7 h8
        rcases ways with e1 | ⟨e1, e2, e3, e6⟩ | ⟨e1, e2, e3, e4, e6⟩ | ⟨e1, e2, e3, e4, e5, e6⟩
        all_goals
          go_enter Try.func137, Try.ntmps137
          go_wp2_with fail
          go_ret
          exact ⟨ret_bool HF.out.symm, below_box _ _⟩
    · have HF := Lib.hid (show mayE (f + 1) (.mk k n d u oa b o cap kids) = false by
        unfold mayE
        rw [if_neg hk]
        have : (decide (n = 0) && decide (d = 0) && decide (u = 0)) = false := by simp; omega
        rw [this]; rfl)
      clear HM HIH h7 h8
      have ways : n ≠ 0 ∨ n = 0 ∧ d ≠ 0 ∨ n = 0 ∧ d = 0 ∧ u ≠ 0 := by omega
      clear hz
      rcases ways with hn | ⟨rfl, hn⟩ | ⟨rfl, rfl, hn⟩
      all_goals
        go_enter Try.func137, Try.ntmps137
        go_wp2_with fail
        go_ret
        exact ⟨ret_bool HF.out.symm, below_box _ _⟩

set_option maxHeartbeats 1000000 in
theorem cMay_any (h : Nat) (e : Ex) (w : World) (hx : ExIn w h e) :
    Calls Try.prog 129 #[xv e] w fun x w' => x = .returned (.bool (mayE 340 e)) ∧ Below w.heap.size w w' := by
  have hC := fun wx hb => cmay_any 340 h e wx 1 rfl (by decide) (hx.below h (w' := wx) hb)
  obtain ⟨k, n, d, u, oa, b, o, cap, kids⟩ := e
  generalize mayE 340 _ = M at *
  simp only [xv_mk] at hC ⊢
  have HC := Lib.hid hC
  clear hC
  go_enter Try.func129, Try.ntmps129
  go_wp2_with fail
  ((with_reducible refine (HC.out _ (below_box _ _)).mono ?_); rintro e w' ⟨rfl, hbw⟩)
  obtain ⟨m, rfl⟩ := grow_mk hbw
  clear hbw
  go_wp2_with fail
  go_ret
  exact ⟨rfl, below_grow (below_box _ _) m⟩

set_option maxHeartbeats 1000000 in
theorem rMayE_any (h : Nat) (e : Ex) (w : World) (hx : ExIn w h e) :
    Calls Try.prog 131 #[xv e] w fun x w' => x = .returned (.bool (mayE 340 e)) ∧ Below w.heap.size w w' := by
  have hC := fun wx hb => rmayE_any 340 h e wx 340 rfl (by decide) (hx.below h (w' := wx) hb)
  obtain ⟨k, n, d, u, oa, b, o, cap, kids⟩ := e
  generalize mayE 340 _ = M at *
  simp only [xv_mk] at hC ⊢
  have HC := Lib.hid hC
  clear hC
  go_enter Try.func131, Try.ntmps131
  go_wp2_with fail
  ((with_reducible refine (HC.out _ (below_box _ _)).mono ?_); rintro e w' ⟨rfl, hbw⟩)
  obtain ⟨m, rfl⟩ := grow_mk hbw
  clear hbw
  go_wp2_with fail
  go_ret
  exact ⟨rfl, below_grow (below_box _ _) m⟩

end Go.Proofs.Ytgjhaanpkfheeaa
