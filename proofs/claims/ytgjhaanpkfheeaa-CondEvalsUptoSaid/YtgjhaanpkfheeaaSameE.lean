/- Whether an expression is nothing, or the same as itself. -/
import Derived.Test.YtgjhaanpkfheeaaMayE
import Derived.Test.YtgjhaanpkfheeaaLooseB
namespace Go.Proofs.Ytgjhaanpkfheeaa
set_option linter.unusedVariables false
set_option linter.unusedSimpArgs false
open Go.RowKit

theorem zeroE_mk (k n d u : Int) (oa : Option Addr) (b o cap : Nat) (kids : List Ex) : zeroE (.mk k n d u oa b o cap kids) = (decide (k = 0) && (decide (n = 0) && decide (d = 0)) && decide (u = 0) && decide (kids.length = 0)) := rfl

set_option maxRecDepth 20000 in
set_option maxHeartbeats 4000000 in
theorem csame_zero (h : Nat) (e : Ex) (w : World) (hx : ExIn w h e) :
    Calls Try.prog 130 #[xv e, .agg #[.int .i64 0, .int .i64 0, .int .i64 0, .int .i64 0, .slice none 0 0]] w fun x w' => x = .returned (.bool (zeroE e)) ∧ Below w.heap.size w w' := by
  obtain _ | h := h
  · exact hx.elim
  obtain ⟨k, n, d, u, oa, b, o, cap, kids⟩ := e
  obtain ⟨_, _, _, h4, h5, _, _, _⟩ := hx
  have hsm : kids.length ≤ 9223372036854775807 := Nat.le_trans (Nat.le_trans h4 h5) (by decide)
  rw [xv_mk, zeroE_mk]
  clear h4 h5
  generalize kids.length = L at *
  have ways : k ≠ 0 ∨ k = 0 ∧ n ≠ 0 ∨ k = 0 ∧ n = 0 ∧ d ≠ 0 ∨ k = 0 ∧ n = 0 ∧ d = 0 ∧ u ≠ 0 ∨ k = 0 ∧ n = 0 ∧ d = 0 ∧ u = 0 ∧ ((L : Int) == 0) = false ∨ k = 0 ∧ n = 0 ∧ d = 0 ∧ u = 0 ∧ L = 0 := by
    simp only [beq_eq_false_iff_ne]; omega
  rcases ways with hn | ⟨rfl, hn⟩ | ⟨rfl, rfl, hn⟩ | ⟨rfl, rfl, rfl, hn⟩ | ⟨rfl, rfl, rfl, rfl, hn⟩ | ⟨rfl, rfl, rfl, rfl, rfl⟩
  · have HF := Lib.hid (show (decide (k = 0) && (decide (n = 0) && decide (d = 0)) && decide (u = 0) && decide (L = 0)) = false by simp [hn])
    go_enter Try.func130, Try.ntmps130
    go_wp2_with fail
    go_ret
    exact ⟨ret_bool (by first | rfl | exact HF.out.symm), ((below_box _ _).alloc (by simp) _)⟩
  · have HF := Lib.hid (show (decide ((0 : Int) = 0) && (decide (n = 0) && decide (d = 0)) && decide (u = 0) && decide (L = 0)) = false by simp [hn])
    go_enter Try.func130, Try.ntmps130
    go_wp2_with fail
    go_ret
    exact ⟨ret_bool (by first | rfl | exact HF.out.symm), ((below_box _ _).alloc (by simp) _)⟩
  · have HF := Lib.hid (show (decide ((0 : Int) = 0) && (decide ((0 : Int) = 0) && decide (d = 0)) && decide (u = 0) && decide (L = 0)) = false by simp [hn])
    go_enter Try.func130, Try.ntmps130
    go_wp2_with fail
    go_ret
    exact ⟨ret_bool (by first | rfl | exact HF.out.symm), ((below_box _ _).alloc (by simp) _)⟩
  · have HF := Lib.hid (show (decide ((0 : Int) = 0) && (decide ((0 : Int) = 0) && decide ((0 : Int) = 0)) && decide (u = 0) && decide (L = 0)) = false by simp [hn])
    go_enter Try.func130, Try.ntmps130
    go_wp2_with fail
    go_ret
    exact ⟨ret_bool (by first | rfl | exact HF.out.symm), ((below_box _ _).alloc (by simp) _)⟩
  · have hn2 : ((L : Int) != 0) = true := by simp only [bne, hn]; rfl
    have HF := Lib.hid (show (decide ((0 : Int) = 0) && (decide ((0 : Int) = 0) && decide ((0 : Int) = 0)) && decide ((0 : Int) = 0) && decide (L = 0)) = false by simp at hn ⊢; omega)
    go_enter Try.func130, Try.ntmps130
    go_wp2_with fail
    go_ret
    exact ⟨ret_bool (by first | rfl | exact HF.out.symm), ((below_box _ _).alloc (by simp) _)⟩
  · go_enter Try.func130, Try.ntmps130
    go_wp2_with fail
    go_loopg [37] 0 (fun kk s wr => s = .int .i64 0 ∧ wr = (w.alloc (.cells #[.int .i64 0, .int .i64 0, .int .i64 0, .int .i64 0, .slice oa 0 cap] 45)).alloc (.cells #[.int .i64 0, .int .i64 0, .int .i64 0, .int .i64 0, .slice none 0 0] 45))
    case atStart => exact ⟨rfl, rfl⟩
    case round =>
      obtain ⟨rfl, rfl⟩ := hrel
      go_wp2_with fail
      go_ret
      exact ⟨ret_bool rfl, ((below_box _ _).alloc (by simp) _)⟩

set_option maxRecDepth 20000 in
set_option maxHeartbeats 4000000 in
theorem rsame_zero (h : Nat) (e : Ex) (w : World) (hx : ExIn w h e) :
    Calls Try.prog 116 #[xv e, .agg #[.int .i64 0, .int .i64 0, .int .i64 0, .int .i64 0, .slice none 0 0]] w fun x w' => x = .returned (.bool (zeroE e)) ∧ Below w.heap.size w w' := by
  obtain _ | h := h
  · exact hx.elim
  obtain ⟨k, n, d, u, oa, b, o, cap, kids⟩ := e
  obtain ⟨_, _, _, h4, h5, _, _, _⟩ := hx
  have hsm : kids.length ≤ 9223372036854775807 := Nat.le_trans (Nat.le_trans h4 h5) (by decide)
  rw [xv_mk, zeroE_mk]
  clear h4 h5
  generalize kids.length = L at *
  have ways : k ≠ 0 ∨ k = 0 ∧ n ≠ 0 ∨ k = 0 ∧ n = 0 ∧ d ≠ 0 ∨ k = 0 ∧ n = 0 ∧ d = 0 ∧ u ≠ 0 ∨ k = 0 ∧ n = 0 ∧ d = 0 ∧ u = 0 ∧ ((L : Int) == 0) = false ∨ k = 0 ∧ n = 0 ∧ d = 0 ∧ u = 0 ∧ L = 0 := by
    simp only [beq_eq_false_iff_ne]; omega
  rcases ways with hn | ⟨rfl, hn⟩ | ⟨rfl, rfl, hn⟩ | ⟨rfl, rfl, rfl, hn⟩ | ⟨rfl, rfl, rfl, rfl, hn⟩ | ⟨rfl, rfl, rfl, rfl, rfl⟩
  · have HF := Lib.hid (show (decide (k = 0) && (decide (n = 0) && decide (d = 0)) && decide (u = 0) && decide (L = 0)) = false by simp [hn])
    go_enter Try.func116, Try.ntmps116
    go_wp2_with fail
    go_ret
    exact ⟨ret_bool (by first | rfl | exact HF.out.symm), ((below_box _ _).alloc (by simp) _)⟩
  · have HF := Lib.hid (show (decide ((0 : Int) = 0) && (decide (n = 0) && decide (d = 0)) && decide (u = 0) && decide (L = 0)) = false by simp [hn])
    go_enter Try.func116, Try.ntmps116
    go_wp2_with fail
    go_ret
    exact ⟨ret_bool (by first | rfl | exact HF.out.symm), ((below_box _ _).alloc (by simp) _)⟩
  · have HF := Lib.hid (show (decide ((0 : Int) = 0) && (decide ((0 : Int) = 0) && decide (d = 0)) && decide (u = 0) && decide (L = 0)) = false by simp [hn])
    go_enter Try.func116, Try.ntmps116
    go_wp2_with fail
    go_ret
    exact ⟨ret_bool (by first | rfl | exact HF.out.symm), ((below_box _ _).alloc (by simp) _)⟩
  · have HF := Lib.hid (show (decide ((0 : Int) = 0) && (decide ((0 : Int) = 0) && decide ((0 : Int) = 0)) && decide (u = 0) && decide (L = 0)) = false by simp [hn])
    go_enter Try.func116, Try.ntmps116
    go_wp2_with fail
    go_ret
    exact ⟨ret_bool (by first | rfl | exact HF.out.symm), ((below_box _ _).alloc (by simp) _)⟩
  · have hn2 : ((L : Int) != 0) = true := by simp only [bne, hn]; rfl
    have HF := Lib.hid (show (decide ((0 : Int) = 0) && (decide ((0 : Int) = 0) && decide ((0 : Int) = 0)) && decide ((0 : Int) = 0) && decide (L = 0)) = false by simp at hn ⊢; omega)
    go_enter Try.func116, Try.ntmps116
    go_wp2_with fail
    go_ret
    exact ⟨ret_bool (by first | rfl | exact HF.out.symm), ((below_box _ _).alloc (by simp) _)⟩
  · go_enter Try.func116, Try.ntmps116
    go_wp2_with fail
    go_loopg [37] 0 (fun kk s wr => s = .int .i64 0 ∧ wr = (w.alloc (.cells #[.int .i64 0, .int .i64 0, .int .i64 0, .int .i64 0, .slice oa 0 cap] 45)).alloc (.cells #[.int .i64 0, .int .i64 0, .int .i64 0, .int .i64 0, .slice none 0 0] 45))
    case atStart => exact ⟨rfl, rfl⟩
    case round =>
      obtain ⟨rfl, rfl⟩ := hrel
      go_wp2_with fail
      go_ret
      exact ⟨ret_bool rfl, ((below_box _ _).alloc (by simp) _)⟩

set_option maxRecDepth 20000 in
set_option maxHeartbeats 4000000 in
theorem rsame_self : ∀ (h : Nat) (e : Ex) (w : World), ExIn w h e →
    Calls Try.prog 116 #[xv e, xv e] w fun x w' => x = .returned (.bool true) ∧ Below w.heap.size w w' := by
  intro h
  induction h with
  | zero => exact fun _ _ h => h.elim
  | succ h ih =>
    intro e w hx
    obtain ⟨k, n, d, u, oa, b, o, cap, kids⟩ := e
    obtain ⟨h1, h2, h3, h4, h5, h6, h7, h8⟩ := hx
    have hsm : kids.length ≤ 9223372036854775807 := Nat.le_trans (Nat.le_trans h4 h5) (by decide)
    have HIH := Lib.hid ih
    clear ih h1 h2 h3 h6
    rw [xv_mk]
    go_enter Try.func116, Try.ntmps116
    go_wp2_with fail
    go_loopg [37] kids.length (fun kk s wr => ∃ (i : Nat), s = .int .i64 i ∧ Hid (Gk w wr 45 #[.int .i64 k, .int .i64 n, .int .i64 d, .int .i64 u, .slice oa kids.length cap]) ∧ Hid (Blk wr (w.heap.size + 1) 45 #[.int .i64 k, .int .i64 n, .int .i64 d, .int .i64 u, .slice oa kids.length cap]) ∧ i ≤ kids.length ∧ kids.length - i ≤ kk)
    case atStart => exact ⟨0, rfl, Lib.hid ⟨(below_box _ _).alloc (by simp) _, (Blk.new _ _ _).old _⟩, Lib.hid (Blk.new2 _ _ _ _), Nat.zero_le _, by omega⟩
    case round =>
      obtain ⟨i, rfl, hg, hg2, hle, hk2⟩ := hrel
      have hbel := Lib.hid hg.out.below
      by_cases hi : i < kids.length
      · have gi : decide ((i : Int) < kids.length) = true := by simpa using hi
        have hr : kids[i]? = some kids[i] := List.getElem?_eq_getElem hi
        have hx := h8 i _ hr
        obtain ⟨rfl, hbl⟩ := h7 (by omega)
        generalize kids[i] = x at *
        have hX := fun wx hb => HIH.out x wx (hx.2.below (w' := wx) _ hb)
        obtain ⟨k', n', d', u', oa', b', o', cap', kids'⟩ := x
        simp only [xv_mk] at hX
        have HX := Lib.hid hX
        clear hX
        have cb0 : wr.cell? ⟨w.heap.size, 0, none⟩ = some (.int .i64 k) := (hg.out.box).cell 0
        have fcb0 := (hg.out.box).frozen 0
        have cb1 : wr.cell? ⟨w.heap.size, 1, none⟩ = some (.int .i64 n) := (hg.out.box).cell 1
        have fcb1 := (hg.out.box).frozen 1
        have cb2 : wr.cell? ⟨w.heap.size, 2, none⟩ = some (.int .i64 d) := (hg.out.box).cell 2
        have fcb2 := (hg.out.box).frozen 2
        have cb3 : wr.cell? ⟨w.heap.size, 3, none⟩ = some (.int .i64 u) := (hg.out.box).cell 3
        have fcb3 := (hg.out.box).frozen 3
        have cb4 : wr.cell? ⟨w.heap.size, 4, none⟩ = some (.slice (some ⟨b, o, none⟩) kids.length cap) := (hg.out.box).cell 4
        have fcb4 := (hg.out.box).frozen 4
        have lcb := (hg.out.box).lt
        have cc0 : wr.cell? ⟨w.heap.size + 1, 0, none⟩ = some (.int .i64 k) := (hg2.out).cell 0
        have fcc0 := (hg2.out).frozen 0
        have cc1 : wr.cell? ⟨w.heap.size + 1, 1, none⟩ = some (.int .i64 n) := (hg2.out).cell 1
        have fcc1 := (hg2.out).frozen 1
        have cc2 : wr.cell? ⟨w.heap.size + 1, 2, none⟩ = some (.int .i64 d) := (hg2.out).cell 2
        have fcc2 := (hg2.out).frozen 2
        have cc3 : wr.cell? ⟨w.heap.size + 1, 3, none⟩ = some (.int .i64 u) := (hg2.out).cell 3
        have fcc3 := (hg2.out).frozen 3
        have cc4 : wr.cell? ⟨w.heap.size + 1, 4, none⟩ = some (.slice (some ⟨b, o, none⟩) kids.length cap) := (hg2.out).cell 4
        have fcc4 := (hg2.out).frozen 4
        have lcc := (hg2.out).lt
        have f0 : wr.cell? ⟨b, o + i * 5, none⟩ = some (.int .i64 k') := (hg.out.below.cell hbl).trans (hx.1 0 _ rfl)
        have f1 : wr.cell? ⟨b, o + i * 5 + 1, none⟩ = some (.int .i64 n') := (hg.out.below.cell hbl).trans (hx.1 1 _ rfl)
        have f2 : wr.cell? ⟨b, o + i * 5 + 2, none⟩ = some (.int .i64 d') := (hg.out.below.cell hbl).trans (hx.1 2 _ rfl)
        have f3 : wr.cell? ⟨b, o + i * 5 + 3, none⟩ = some (.int .i64 u') := (hg.out.below.cell hbl).trans (hx.1 3 _ rfl)
        have f4 : wr.cell? ⟨b, o + i * 5 + 4, none⟩ = some (.slice oa' kids'.length cap') := (hg.out.below.cell hbl).trans (hx.1 4 _ rfl)
        have lb : b < wr.heap.size := Nat.lt_of_lt_of_le hbl hg.out.below.size
        clear hx hr h8 h7
        go_wp2_with fail
        refine wp_region_grow (by kernel_rfl) (by kernel_rfl) ?_
        repeat (go_big_quiet_step ((first | (go_at_call 116; exact calls_grow (HX.out _ (below_grow hbel.out _))))))
        refine wpQuiet_nil ?_
        rintro _ ⟨m, rfl⟩
        go_wp2_with fail
        go_roundg (kids.length - (i + 1))
        case measure => omega
        case rel => exact ⟨i + 1, by go_num, Lib.hid ⟨below_grow hbel.out m, hg.out.box.grow m⟩, Lib.hid (hg2.out.grow m), hi, by omega⟩
      · obtain rfl : i = kids.length := by omega
        go_wp2_with fail
        go_ret
        exact ⟨ret_bool rfl, hbel.out⟩

end Go.Proofs.Ytgjhaanpkfheeaa
