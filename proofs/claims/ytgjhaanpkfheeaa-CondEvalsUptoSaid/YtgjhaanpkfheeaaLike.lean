/- Whether two leaves are the same. -/
import Derived.Test.YtgjhaanpkfheeaaSameE
namespace Go.Proofs.Ytgjhaanpkfheeaa
set_option linter.unusedVariables false
set_option linter.unusedSimpArgs false
open Go.RowKit

theorem lv_mk (k t : Int) (nm : ByteArray) (op : Int) (k' n d u : Int) (oa : Option Addr) (b o cap : Nat) (kids : List Ex) (wd vl : ByteArray) (an : Bool) :
    lv ⟨k, t, nm, op, .mk k' n d u oa b o cap kids, wd, vl, an⟩ = .agg #[.int .i64 k, .int .i64 t, .string nm, .int .i64 op, .int .i64 k', .int .i64 n, .int .i64 d, .int .i64 u, .slice oa kids.length cap, .string wd, .string vl, .bool an] := rfl


set_option maxRecDepth 20000 in
set_option maxHeartbeats 8000000 in
theorem clike_any (l m : Lf) (B : Bool) (w : World) (hS : ∀ wx, Below w.heap.size w wx → Calls Try.prog 130 #[xv l.ex, xv m.ex] wx fun x w' => x = .returned (.bool B) ∧ Below wx.heap.size wx w') :
    Calls Try.prog 121 #[lv l, lv m] w fun x w' => x = .returned (.bool (likeB l m B)) ∧ Below w.heap.size w w' := by
  obtain ⟨k, t, nm, op, ⟨k', n, d, u, oa, b, o, cap, kids⟩, wd, vl, an⟩ := l
  obtain ⟨K, T, NM, OP, ⟨K', N, D, U, OA, B', O, CAP, KIDS⟩, WD, VL, AN⟩ := m
  simp only [xv_mk] at hS
  rw [lv_mk, lv_mk]
  have HS := Lib.hid hS
  clear hS
  unfold likeB
  simp only
  generalize kids.length = L at *
  generalize KIDS.length = L' at *
  obtain ⟨b1, g1⟩ : ∃ b, (k == K) = b := ⟨_, rfl⟩
  obtain ⟨b2, g2⟩ : ∃ b, (t == T) = b := ⟨_, rfl⟩
  obtain ⟨b3, g3⟩ : ∃ b, (nm.toList == NM.toList) = b := ⟨_, rfl⟩
  obtain ⟨b4, g4⟩ : ∃ b, (op == OP) = b := ⟨_, rfl⟩
  obtain ⟨b6, g6⟩ : ∃ b, (wd.toList == WD.toList) = b := ⟨_, rfl⟩
  obtain ⟨b7, g7⟩ : ∃ b, (vl.toList == VL.toList) = b := ⟨_, rfl⟩
  rw [g1, g2, g3, g4, g6, g7]
  cases b1 with
  | false =>
    go_enter Try.func121, Try.ntmps121
    go_wp2_with fail
    go_ret
    exact ⟨ret_bool (by simp), ((below_box _ _).alloc (by simp) _)⟩
  | true =>
    cases b2 with
    | false =>
      go_enter Try.func121, Try.ntmps121
      go_wp2_with fail
      go_ret
      exact ⟨ret_bool (by simp), ((below_box _ _).alloc (by simp) _)⟩
    | true =>
      cases b3 with
      | false =>
        go_enter Try.func121, Try.ntmps121
        go_wp2_with fail
        go_ret
        exact ⟨ret_bool (by simp), ((below_box _ _).alloc (by simp) _)⟩
      | true =>
        cases b4 with
        | false =>
          go_enter Try.func121, Try.ntmps121
          go_wp2_with fail
          go_ret
          exact ⟨ret_bool (by simp), ((below_box _ _).alloc (by simp) _)⟩
        | true =>
          cases B with
          | false =>
            go_enter Try.func121, Try.ntmps121
            go_wp2_with fail
            ((with_reducible refine (HS.out _ ((below_box _ _).alloc (by simp) _)).mono ?_); rintro e w' ⟨rfl, hbw⟩)
            obtain ⟨m, rfl⟩ := grow_mk hbw
            clear hbw
            go_wp2_with fail
            go_ret
            exact ⟨ret_bool (by simp), below_grow ((below_box _ _).alloc (by simp) _) m⟩
          | true =>
            cases b6 with
            | false =>
              go_enter Try.func121, Try.ntmps121
              go_wp2_with fail
              ((with_reducible refine (HS.out _ ((below_box _ _).alloc (by simp) _)).mono ?_); rintro e w' ⟨rfl, hbw⟩)
              obtain ⟨m, rfl⟩ := grow_mk hbw
              clear hbw
              go_wp2_with fail
              go_ret
              exact ⟨ret_bool (by simp), below_grow ((below_box _ _).alloc (by simp) _) m⟩
            | true =>
              cases b7 with
              | false =>
                go_enter Try.func121, Try.ntmps121
                go_wp2_with fail
                ((with_reducible refine (HS.out _ ((below_box _ _).alloc (by simp) _)).mono ?_); rintro e w' ⟨rfl, hbw⟩)
                obtain ⟨m, rfl⟩ := grow_mk hbw
                clear hbw
                go_wp2_with fail
                go_ret
                exact ⟨ret_bool (by simp), below_grow ((below_box _ _).alloc (by simp) _) m⟩
              | true =>
                cases an <;> cases AN
                all_goals
                  go_enter Try.func121, Try.ntmps121
                  go_wp2_with fail
                  ((with_reducible refine (HS.out _ ((below_box _ _).alloc (by simp) _)).mono ?_); rintro e w' ⟨rfl, hbw⟩)
                  obtain ⟨m, rfl⟩ := grow_mk hbw
                  clear hbw
                  go_wp2_with fail
                  go_ret
                  exact ⟨ret_bool (by simp), below_grow ((below_box _ _).alloc (by simp) _) m⟩

set_option maxRecDepth 20000 in
set_option maxHeartbeats 8000000 in
theorem rlike_any (l m : Lf) (B : Bool) (w : World) (hS : ∀ wx, Below w.heap.size w wx → Calls Try.prog 116 #[xv l.ex, xv m.ex] wx fun x w' => x = .returned (.bool B) ∧ Below wx.heap.size wx w') :
    Calls Try.prog 95 #[lv l, lv m] w fun x w' => x = .returned (.bool (likeB l m B)) ∧ Below w.heap.size w w' := by
  obtain ⟨k, t, nm, op, ⟨k', n, d, u, oa, b, o, cap, kids⟩, wd, vl, an⟩ := l
  obtain ⟨K, T, NM, OP, ⟨K', N, D, U, OA, B', O, CAP, KIDS⟩, WD, VL, AN⟩ := m
  simp only [xv_mk] at hS
  rw [lv_mk, lv_mk]
  have HS := Lib.hid hS
  clear hS
  unfold likeB
  simp only
  generalize kids.length = L at *
  generalize KIDS.length = L' at *
  obtain ⟨b1, g1⟩ : ∃ b, (k == K) = b := ⟨_, rfl⟩
  obtain ⟨b2, g2⟩ : ∃ b, (t == T) = b := ⟨_, rfl⟩
  obtain ⟨b3, g3⟩ : ∃ b, (nm.toList == NM.toList) = b := ⟨_, rfl⟩
  obtain ⟨b4, g4⟩ : ∃ b, (op == OP) = b := ⟨_, rfl⟩
  obtain ⟨b6, g6⟩ : ∃ b, (wd.toList == WD.toList) = b := ⟨_, rfl⟩
  obtain ⟨b7, g7⟩ : ∃ b, (vl.toList == VL.toList) = b := ⟨_, rfl⟩
  rw [g1, g2, g3, g4, g6, g7]
  cases b1 with
  | false =>
    go_enter Try.func95, Try.ntmps95
    go_wp2_with fail
    go_ret
    exact ⟨ret_bool (by simp), ((below_box _ _).alloc (by simp) _)⟩
  | true =>
    cases b2 with
    | false =>
      go_enter Try.func95, Try.ntmps95
      go_wp2_with fail
      go_ret
      exact ⟨ret_bool (by simp), ((below_box _ _).alloc (by simp) _)⟩
    | true =>
      cases b3 with
      | false =>
        go_enter Try.func95, Try.ntmps95
        go_wp2_with fail
        go_ret
        exact ⟨ret_bool (by simp), ((below_box _ _).alloc (by simp) _)⟩
      | true =>
        cases b4 with
        | false =>
          go_enter Try.func95, Try.ntmps95
          go_wp2_with fail
          go_ret
          exact ⟨ret_bool (by simp), ((below_box _ _).alloc (by simp) _)⟩
        | true =>
          cases B with
          | false =>
            go_enter Try.func95, Try.ntmps95
            go_wp2_with fail
            ((with_reducible refine (HS.out _ ((below_box _ _).alloc (by simp) _)).mono ?_); rintro e w' ⟨rfl, hbw⟩)
            obtain ⟨m, rfl⟩ := grow_mk hbw
            clear hbw
            go_wp2_with fail
            go_ret
            exact ⟨ret_bool (by simp), below_grow ((below_box _ _).alloc (by simp) _) m⟩
          | true =>
            cases b6 with
            | false =>
              go_enter Try.func95, Try.ntmps95
              go_wp2_with fail
              ((with_reducible refine (HS.out _ ((below_box _ _).alloc (by simp) _)).mono ?_); rintro e w' ⟨rfl, hbw⟩)
              obtain ⟨m, rfl⟩ := grow_mk hbw
              clear hbw
              go_wp2_with fail
              go_ret
              exact ⟨ret_bool (by simp), below_grow ((below_box _ _).alloc (by simp) _) m⟩
            | true =>
              cases b7 with
              | false =>
                go_enter Try.func95, Try.ntmps95
                go_wp2_with fail
                ((with_reducible refine (HS.out _ ((below_box _ _).alloc (by simp) _)).mono ?_); rintro e w' ⟨rfl, hbw⟩)
                obtain ⟨m, rfl⟩ := grow_mk hbw
                clear hbw
                go_wp2_with fail
                go_ret
                exact ⟨ret_bool (by simp), below_grow ((below_box _ _).alloc (by simp) _) m⟩
              | true =>
                cases an <;> cases AN
                all_goals
                  go_enter Try.func95, Try.ntmps95
                  go_wp2_with fail
                  ((with_reducible refine (HS.out _ ((below_box _ _).alloc (by simp) _)).mono ?_); rintro e w' ⟨rfl, hbw⟩)
                  obtain ⟨m, rfl⟩ := grow_mk hbw
                  clear hbw
                  go_wp2_with fail
                  go_ret
                  exact ⟨ret_bool (by simp), below_grow ((below_box _ _).alloc (by simp) _) m⟩

end Go.Proofs.Ytgjhaanpkfheeaa
