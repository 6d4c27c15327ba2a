/- Of my texts: Tree, MayE, SameE, Like, AwakeA, AwakeC. -/
import Derived.Test.YtgjhaanpkfheeaaM03
import Derived.Test.YtgjhaanpkfheeaaM04
import Derived.Test.YtgjhaanpkfheeaaM09
import Derived.Deep.LoopGhost
import Derived.Deep.CutBlock
import Derived.Deep.DeepCutAuto
import Derived.LoopN
namespace Go.Proofs.Ytgjhaanpkfheeaa
set_option linter.unusedVariables false
set_option linter.unusedSimpArgs false
open Go.RowKit

/-- an expression, with the place of its kids -/
inductive Ex where
  | mk (k n d u : Int) (oa : Option Addr) (b o cap : Nat) (kids : List Ex)

/-- its cells -/
def xcells : Ex → List Value
  | .mk k n d u oa _ _ cap kids => [.int .i64 k, .int .i64 n, .int .i64 d, .int .i64 u, .slice oa kids.length cap]
def xv (e : Ex) : Value := .agg (xcells e).toArray

/-- a number of 64 bits -/
def I64 (x : Int) : Prop := -9223372036854775808 ≤ x ∧ x ≤ 9223372036854775807

/-- the expression lies in the world; its height is below h -/
def ExIn (w : World) : Nat → Ex → Prop
  | 0, _ => False
  | h + 1, .mk k n d u oa b o cap kids => I64 k ∧ Is64 (n, d) ∧ I64 u ∧ kids.length ≤ cap ∧ cap ≤ maxLen ∧ kids.length * 56 ≤ 140737488355328 ∧ (0 < kids.length → oa = some ⟨b, o, none⟩ ∧ b < w.heap.size) ∧
    ∀ i x, kids[i]? = some x → (∀ j v, (xcells x)[j]? = some v → w.cell? ⟨b, o + i * 5 + j, none⟩ = some v) ∧ ExIn w h x

theorem ExIn.below : ∀ (h : Nat) {e : Ex} {w w' : World}, ExIn w h e → Below w.heap.size w w' → ExIn w' h e
  | 0, _, _, _, h, _ => h.elim
  | h + 1, .mk k n d u oa b o cap kids, w, w', hx, hb => by
    obtain ⟨h1, h2, h3, h4, h5, h6, h7, h8⟩ := hx
    refine ⟨h1, h2, h3, h4, h5, h6, fun hl => ⟨(h7 hl).1, Nat.lt_of_lt_of_le (h7 hl).2 hb.size⟩, fun i x hi => ⟨fun j v hv => ?_, ExIn.below h (h8 i x hi).2 hb⟩⟩
    have hpos : 0 < kids.length := by have := (List.getElem?_eq_some_iff.1 hi).1; omega
    exact (hb.cell (p := ⟨b, o + i * 5 + j, none⟩) (h7 hpos).2).trans ((h8 i x hi).1 j v hv)

theorem ExIn.grow {h : Nat} {e : Ex} {w : World} (hx : ExIn w h e) (m : Ext w) : ExIn (grow w m) h e := hx.below h (grow_below m)

/-- the same, whatever is nothing -/
def zeroE : Ex → Bool
  | .mk k n d u _ _ _ _ kids => decide (k = 0) && (decide (n = 0) && decide (d = 0)) && decide (u = 0) && decide (kids.length = 0)

/-- a leaf -/
structure Lf where
  kind : Int
  truth : Int
  name : ByteArray
  op : Int
  ex : Ex
  word : ByteArray
  value : ByteArray
  any : Bool

def lcells (l : Lf) : List Value := [.int .i64 l.kind, .int .i64 l.truth, .string l.name, .int .i64 l.op] ++ xcells l.ex ++ [.string l.word, .string l.value, .bool l.any]

def lv (l : Lf) : Value := .agg (lcells l).toArray

def LfIn (w : World) (h : Nat) (l : Lf) : Prop := I64 l.kind ∧ I64 l.truth ∧ I64 l.op ∧ ExIn w h l.ex
theorem LfIn.below {w w' : World} {h : Nat} {l : Lf} (hl : LfIn w h l) (hb : Below w.heap.size w w') : LfIn w' h l := ⟨hl.1, hl.2.1, hl.2.2.1, hl.2.2.2.below h hb⟩

/-- a condition, with the place of its kids -/
inductive Cd where
  | mk (k : Int) (oa : Option Addr) (b o cap : Nat) (kids : List Cd) (leaf : Lf)

def ccells : Cd → List Value
  | .mk k oa _ _ cap kids leaf => [.int .i64 k, .slice oa kids.length cap] ++ lcells leaf

def cv (c : Cd) : Value := .agg (ccells c).toArray

/-- the condition lies in the world; its height is below h -/
def CdIn (w : World) : Nat → Cd → Prop
  | 0, _ => False
  | h + 1, .mk k oa b o cap kids leaf => I64 k ∧ LfIn w h leaf ∧ kids.length ≤ cap ∧ cap ≤ maxLen ∧ kids.length * 8 ≤ 140737488355328 ∧ (0 < kids.length → oa = some ⟨b, o, none⟩ ∧ b < w.heap.size) ∧
    ∀ i x, kids[i]? = some x → (∀ j v, (ccells x)[j]? = some v → w.cell? ⟨b, o + i * 14 + j, none⟩ = some v) ∧ CdIn w h x

theorem CdIn.below : ∀ (h : Nat) {e : Cd} {w w' : World}, CdIn w h e → Below w.heap.size w w' → CdIn w' h e
  | 0, _, _, _, h, _ => h.elim
  | h + 1, .mk k oa b o cap kids leaf, w, w', hx, hb => by
    obtain ⟨h1, h2, h4, h5, h6, h7, h8⟩ := hx
    refine ⟨h1, h2.below hb, h4, h5, h6, fun hl => ⟨(h7 hl).1, Nat.lt_of_lt_of_le (h7 hl).2 hb.size⟩, fun i x hi => ⟨fun j v hv => ?_, CdIn.below h (h8 i x hi).2 hb⟩⟩
    have hpos : 0 < kids.length := by have := (List.getElem?_eq_some_iff.1 hi).1; omega
    exact (hb.cell (p := ⟨b, o + i * 14 + j, none⟩) (h7 hpos).2).trans ((h8 i x hi).1 j v hv)

/-- whether two leaves are the same, by whether their expressions are -/
def likeB (l m : Lf) (B : Bool) : Bool := (l.kind == m.kind) && (l.truth == m.truth) && (l.name.toList == m.name.toList) && (l.op == m.op) && B && (l.word.toList == m.word.toList) && (l.value.toList == m.value.toList) && (l.any == m.any)
def zeroX : Ex := .mk 0 0 0 0 none 0 0 0 []
end Go.Proofs.Ytgjhaanpkfheeaa

namespace Go.Proofs.Ytgjhaanpkfheeaa
set_option linter.unusedVariables false
set_option linter.unusedSimpArgs false
open Go.RowKit

theorem xv_mk (k n d u : Int) (oa : Option Addr) (b o cap : Nat) (kids : List Ex) : xv (.mk k n d u oa b o cap kids) = .agg #[.int .i64 k, .int .i64 n, .int .i64 d, .int .i64 u, .slice oa kids.length cap] := rfl

end Go.Proofs.Ytgjhaanpkfheeaa

namespace Go.Proofs.Ytgjhaanpkfheeaa
set_option linter.unusedVariables false
set_option linter.unusedSimpArgs false
open Go.RowKit

theorem zeroE_mk (k n d u : Int) (oa : Option Addr) (b o cap : Nat) (kids : List Ex) : zeroE (.mk k n d u oa b o cap kids) = (decide (k = 0) && (decide (n = 0) && decide (d = 0)) && decide (u = 0) && decide (kids.length = 0)) := rfl

set_option maxRecDepth 20000 in
set_option maxHeartbeats 4000000 in
theorem rsame_zero (h : Nat) (e : Ex) (w : World) (hx : ExIn w h e) :
    Calls Try.prog 116 #[xv e, .agg #[.int .i64 0, .int .i64 0, .int .i64 0, .int .i64 0, .slice none 0 0]] w fun x w' => x = .returned (.bool (zeroE e)) ∧ Below w.heap.size w w' := by
  obtain _ | h := h
  · exact hx.elim
  obtain ⟨k, n, d, u, oa, b, o, cap, kids⟩ := e
  obtain ⟨_, _, _, h4, h5, _, _, _⟩ := hx
  have hsm : kids.length ≤ 9223372036854775807 := Nat.le_trans (Nat.le_trans h4 h5) (by decide)
  rw [xv_mk, zeroE_mk]
  clear h4 h5
  generalize kids.length = L at *
  have ways : k ≠ 0 ∨ k = 0 ∧ n ≠ 0 ∨ k = 0 ∧ n = 0 ∧ d ≠ 0 ∨ k = 0 ∧ n = 0 ∧ d = 0 ∧ u ≠ 0 ∨ k = 0 ∧ n = 0 ∧ d = 0 ∧ u = 0 ∧ ((L : Int) == 0) = false ∨ k = 0 ∧ n = 0 ∧ d = 0 ∧ u = 0 ∧ L = 0 := by
    simp only [beq_eq_false_iff_ne]; omega
  rcases ways with hn | ⟨rfl, hn⟩ | ⟨rfl, rfl, hn⟩ | ⟨rfl, rfl, rfl, hn⟩ | ⟨rfl, rfl, rfl, rfl, hn⟩ | ⟨rfl, rfl, rfl, rfl, rfl⟩
  · have HF := Lib.hid (show (decide (k = 0) && (decide (n = 0) && decide (d = 0)) && decide (u = 0) && decide (L = 0)) = false by simp [hn])
    go_enter Try.func116, Try.ntmps116
    go_wp2_with fail
    go_ret
    exact ⟨ret_bool (by first | rfl | exact HF.out.symm), ((below_box _ _).alloc (by simp) _)⟩
  · have HF := Lib.hid (show (decide ((0 : Int) = 0) && (decide (n = 0) && decide (d = 0)) && decide (u = 0) && decide (L = 0)) = false by simp [hn])
    go_enter Try.func116, Try.ntmps116
    go_wp2_with fail
    go_ret
    exact ⟨ret_bool (by first | rfl | exact HF.out.symm), ((below_box _ _).alloc (by simp) _)⟩
  · have HF := Lib.hid (show (decide ((0 : Int) = 0) && (decide ((0 : Int) = 0) && decide (d = 0)) && decide (u = 0) && decide (L = 0)) = false by simp [hn])
    go_enter Try.func116, Try.ntmps116
    go_wp2_with fail
    go_ret
    exact ⟨ret_bool (by first | rfl | exact HF.out.symm), ((below_box _ _).alloc (by simp) _)⟩
  · have HF := Lib.hid (show (decide ((0 : Int) = 0) && (decide ((0 : Int) = 0) && decide ((0 : Int) = 0)) && decide (u = 0) && decide (L = 0)) = false by simp [hn])
    go_enter Try.func116, Try.ntmps116
    go_wp2_with fail
    go_ret
    exact ⟨ret_bool (by first | rfl | exact HF.out.symm), ((below_box _ _).alloc (by simp) _)⟩
  · have hn2 : ((L : Int) != 0) = true := by simp only [bne, hn]; rfl
    have HF := Lib.hid (show (decide ((0 : Int) = 0) && (decide ((0 : Int) = 0) && decide ((0 : Int) = 0)) && decide ((0 : Int) = 0) && decide (L = 0)) = false by simp at hn ⊢; omega)
    go_enter Try.func116, Try.ntmps116
    go_wp2_with fail
    go_ret
    exact ⟨ret_bool (by first | rfl | exact HF.out.symm), ((below_box _ _).alloc (by simp) _)⟩
  · go_enter Try.func116, Try.ntmps116
    go_wp2_with fail
    go_loopg [37] 0 (fun kk s wr => s = .int .i64 0 ∧ wr = (w.alloc (.cells #[.int .i64 0, .int .i64 0, .int .i64 0, .int .i64 0, .slice oa 0 cap] 45)).alloc (.cells #[.int .i64 0, .int .i64 0, .int .i64 0, .int .i64 0, .slice none 0 0] 45))
    case atStart => exact ⟨rfl, rfl⟩
    case round =>
      obtain ⟨rfl, rfl⟩ := hrel
      go_wp2_with fail
      go_ret
      exact ⟨ret_bool rfl, ((below_box _ _).alloc (by simp) _)⟩

end Go.Proofs.Ytgjhaanpkfheeaa

namespace Go.Proofs.Ytgjhaanpkfheeaa
set_option linter.unusedVariables false
set_option linter.unusedSimpArgs false
open Go.RowKit

theorem lv_mk (k t : Int) (nm : ByteArray) (op : Int) (k' n d u : Int) (oa : Option Addr) (b o cap : Nat) (kids : List Ex) (wd vl : ByteArray) (an : Bool) :
    lv ⟨k, t, nm, op, .mk k' n d u oa b o cap kids, wd, vl, an⟩ = .agg #[.int .i64 k, .int .i64 t, .string nm, .int .i64 op, .int .i64 k', .int .i64 n, .int .i64 d, .int .i64 u, .slice oa kids.length cap, .string wd, .string vl, .bool an] := rfl


set_option maxRecDepth 20000 in
set_option maxHeartbeats 8000000 in
theorem rlike_any (l m : Lf) (B : Bool) (w : World) (hS : ∀ wx, Below w.heap.size w wx → Calls Try.prog 116 #[xv l.ex, xv m.ex] wx fun x w' => x = .returned (.bool B) ∧ Below wx.heap.size wx w') :
    Calls Try.prog 95 #[lv l, lv m] w fun x w' => x = .returned (.bool (likeB l m B)) ∧ Below w.heap.size w w' := by
  obtain ⟨k, t, nm, op, ⟨k', n, d, u, oa, b, o, cap, kids⟩, wd, vl, an⟩ := l
  obtain ⟨K, T, NM, OP, ⟨K', N, D, U, OA, B', O, CAP, KIDS⟩, WD, VL, AN⟩ := m
  simp only [xv_mk] at hS
  rw [lv_mk, lv_mk]
  have HS := Lib.hid hS
  clear hS
  unfold likeB
  simp only
  generalize kids.length = L at *
  generalize KIDS.length = L' at *
  obtain ⟨b1, g1⟩ : ∃ b, (k == K) = b := ⟨_, rfl⟩
  obtain ⟨b2, g2⟩ : ∃ b, (t == T) = b := ⟨_, rfl⟩
  obtain ⟨b3, g3⟩ : ∃ b, (nm.toList == NM.toList) = b := ⟨_, rfl⟩
  obtain ⟨b4, g4⟩ : ∃ b, (op == OP) = b := ⟨_, rfl⟩
  obtain ⟨b6, g6⟩ : ∃ b, (wd.toList == WD.toList) = b := ⟨_, rfl⟩
  obtain ⟨b7, g7⟩ : ∃ b, (vl.toList == VL.toList) = b := ⟨_, rfl⟩
  rw [g1, g2, g3, g4, g6, g7]
  cases b1 with
  | false =>
    go_enter Try.func95, Try.ntmps95
    go_wp2_with fail
    go_ret
    exact ⟨ret_bool (by simp), ((below_box _ _).alloc (by simp) _)⟩
  | true =>
    cases b2 with
    | false =>
      go_enter Try.func95, Try.ntmps95
      go_wp2_with fail
      go_ret
      exact ⟨ret_bool (by simp), ((below_box _ _).alloc (by simp) _)⟩
    | true =>
      cases b3 with
      | false =>
        go_enter Try.func95, Try.ntmps95
        go_wp2_with fail
        go_ret
        exact ⟨ret_bool (by simp), ((below_box _ _).alloc (by simp) _)⟩
      | true =>
        cases b4 with
        | false =>
          go_enter Try.func95, Try.ntmps95
          go_wp2_with fail
          go_ret
          exact ⟨ret_bool (by simp), ((below_box _ _).alloc (by simp) _)⟩
        | true =>
          cases B with
          | false =>
            go_enter Try.func95, Try.ntmps95
            go_wp2_with fail
            ((with_reducible refine (HS.out _ ((below_box _ _).alloc (by simp) _)).mono ?_); rintro e w' ⟨rfl, hbw⟩)
            obtain ⟨m, rfl⟩ := grow_mk hbw
            clear hbw
            go_wp2_with fail
            go_ret
            exact ⟨ret_bool (by simp), below_grow ((below_box _ _).alloc (by simp) _) m⟩
          | true =>
            cases b6 with
            | false =>
              go_enter Try.func95, Try.ntmps95
              go_wp2_with fail
              ((with_reducible refine (HS.out _ ((below_box _ _).alloc (by simp) _)).mono ?_); rintro e w' ⟨rfl, hbw⟩)
              obtain ⟨m, rfl⟩ := grow_mk hbw
              clear hbw
              go_wp2_with fail
              go_ret
              exact ⟨ret_bool (by simp), below_grow ((below_box _ _).alloc (by simp) _) m⟩
            | true =>
              cases b7 with
              | false =>
                go_enter Try.func95, Try.ntmps95
                go_wp2_with fail
                ((with_reducible refine (HS.out _ ((below_box _ _).alloc (by simp) _)).mono ?_); rintro e w' ⟨rfl, hbw⟩)
                obtain ⟨m, rfl⟩ := grow_mk hbw
                clear hbw
                go_wp2_with fail
                go_ret
                exact ⟨ret_bool (by simp), below_grow ((below_box _ _).alloc (by simp) _) m⟩
              | true =>
                cases an <;> cases AN
                all_goals
                  go_enter Try.func95, Try.ntmps95
                  go_wp2_with fail
                  ((with_reducible refine (HS.out _ ((below_box _ _).alloc (by simp) _)).mono ?_); rintro e w' ⟨rfl, hbw⟩)
                  obtain ⟨m, rfl⟩ := grow_mk hbw
                  clear hbw
                  go_wp2_with fail
                  go_ret
                  exact ⟨ret_bool (by simp), below_grow ((below_box _ _).alloc (by simp) _) m⟩

end Go.Proofs.Ytgjhaanpkfheeaa

namespace Go.Proofs.Ytgjhaanpkfheeaa
set_option linter.unusedVariables false
set_option linter.unusedSimpArgs false
open Go.RowKit

/-- the empty text; nothing as an expression, as a leaf -/
abbrev sv0 : Value := .string ⟨#[]⟩
abbrev ev0 : Value := .agg #[.int .i64 0, .int .i64 0, .int .i64 0, .int .i64 0, .slice none 0 0]
/-- a leaf of a kind with a truth -/
abbrev alv (k t : Int) : Value := .agg #[.int .i64 k, .int .i64 t, sv0, .int .i64 0, .int .i64 0, .int .i64 0, .int .i64 0, .int .i64 0, .slice none 0 0, sv0, sv0, .bool false]

set_option maxHeartbeats 1000000 in
theorem same_zero (w : World) : Calls Try.prog 130 #[ev0, ev0] w fun e w' => e = .returned (.bool true) ∧ Below w.heap.size w w' := by
  go_enter Try.func130, Try.ntmps130
  go_wp2_with fail
  go_loopg [37] 0 (fun k s wr => s = .int .i64 0 ∧ Hid (Below w.heap.size w wr))
  case atStart => exact ⟨rfl, Lib.hid ((below_box _ _).alloc (by simp) _)⟩
  case round =>
    obtain ⟨rfl, hb⟩ := hrel
    go_wp2_with fail
    go_ret
    exact ⟨rfl, hb.out⟩

set_option maxHeartbeats 1000000 in
theorem likewise_zero (w : World) : Calls Try.prog 121 #[alv 0 0, alv 0 0] w fun e w' => e = .returned (.bool true) ∧ Below w.heap.size w w' := by
  have HS := Lib.hid (fun w => same_zero w)
  go_enter Try.func121, Try.ntmps121
  go_wp2_with fail
  ((with_reducible refine (HS.out _).mono ?_); rintro e w' ⟨rfl, hbw⟩)
  obtain ⟨m, rfl⟩ := grow_mk hbw
  clear hbw
  go_wp2_with fail
  go_ret
  exact ⟨rfl, below_grow ((below_box _ _).alloc (by simp) _) _⟩

set_option maxHeartbeats 1000000 in
theorem leaf_truth (w : World) : Calls Try.prog 120 #[alv 1 2] w fun e w' => e = .returned (.bool true) ∧ Below w.heap.size w w' := by
  have HS := Lib.hid (fun w => likewise_zero w)
  go_enter Try.func120, Try.ntmps120
  go_wp2_with fail
  ((with_reducible refine (HS.out _).mono ?_); rintro e w' ⟨rfl, hbw⟩)
  obtain ⟨m, rfl⟩ := grow_mk hbw
  clear hbw
  go_wp2_with fail
  go_ret
  exact ⟨rfl, below_grow ((below_box _ _).alloc (by simp) _) _⟩

/-- the cells of a condition with an only leaf; of a condition with one part -/
abbrev kidC : Array Value := #[.int .i64 4, .slice none 0 0, .int .i64 1, .int .i64 2, sv0, .int .i64 0, .int .i64 0, .int .i64 0, .int .i64 0, .int .i64 0, .slice none 0 0, sv0, sv0, .bool false]
abbrev notC (kb : Nat) : Array Value := #[.int .i64 3, .slice (some ⟨kb, 0, none⟩) 1 1, .int .i64 0, .int .i64 0, sv0, .int .i64 0, .int .i64 0, .int .i64 0, .int .i64 0, .int .i64 0, .slice none 0 0, sv0, sv0, .bool false]

set_option maxHeartbeats 1000000 in
theorem may_leaf (w : World) : Calls Try.prog 100 #[.agg kidC, .int .i64 2] w fun e w' => e = .returned (.bool true) ∧ Below w.heap.size w w' := by
  have HS := Lib.hid (fun w => leaf_truth w)
  go_enter Try.func100, Try.ntmps100
  go_wp2_with fail
  ((with_reducible refine (HS.out _).mono ?_); rintro e w' ⟨rfl, hbw⟩)
  obtain ⟨m, rfl⟩ := grow_mk hbw
  clear hbw
  go_wp2_with fail
  go_ret
  exact ⟨rfl, below_grow (below_box _ _) _⟩

set_option maxHeartbeats 1000000 in
theorem may_not (w : World) (kb : Nat) (t : TypeId) (h : Blk w kb t kidC) : Calls Try.prog 100 #[.agg (notC kb), .int .i64 1] w fun e w' => e = .returned (.bool true) ∧ Below w.heap.size w w' := by
  have HS := Lib.hid (fun w => likewise_zero w)
  have HM := Lib.hid (fun w => may_leaf w)
  have hlt := h.lt
  have c0 : w.cell? ⟨kb, 0, none⟩ = some (.int .i64 4) := h.cell 0
  have c1 : w.cell? ⟨kb, 1, none⟩ = some (.slice none 0 0) := h.cell 1
  have c2 : w.cell? ⟨kb, 2, none⟩ = some (.int .i64 1) := h.cell 2
  have c3 : w.cell? ⟨kb, 3, none⟩ = some (.int .i64 2) := h.cell 3
  have c4 : w.cell? ⟨kb, 4, none⟩ = some sv0 := h.cell 4
  have c5 : w.cell? ⟨kb, 5, none⟩ = some (.int .i64 0) := h.cell 5
  have c6 : w.cell? ⟨kb, 6, none⟩ = some (.int .i64 0) := h.cell 6
  have c7 : w.cell? ⟨kb, 7, none⟩ = some (.int .i64 0) := h.cell 7
  have c8 : w.cell? ⟨kb, 8, none⟩ = some (.int .i64 0) := h.cell 8
  have c9 : w.cell? ⟨kb, 9, none⟩ = some (.int .i64 0) := h.cell 9
  have c10 : w.cell? ⟨kb, 10, none⟩ = some (.slice none 0 0) := h.cell 10
  have c11 : w.cell? ⟨kb, 11, none⟩ = some sv0 := h.cell 11
  have c12 : w.cell? ⟨kb, 12, none⟩ = some sv0 := h.cell 12
  have c13 : w.cell? ⟨kb, 13, none⟩ = some (.bool false) := h.cell 13
  clear h
  go_enter Try.func100, Try.ntmps100
  go_wp2_with fail
  ((with_reducible refine (HS.out _).mono ?_); rintro e w' ⟨rfl, hbw⟩)
  obtain ⟨m, rfl⟩ := grow_mk hbw
  clear hbw
  go_wp2_with fail
  refine wp_loop_rounds 2 ?_
  rw [rounds_succ]
  go_wp2_with fail
  ((with_reducible refine (HM.out _).mono ?_); rintro e w' ⟨rfl, hbw⟩)
  obtain ⟨m2, rfl⟩ := grow_mk hbw
  clear hbw
  go_wp2_with fail
  rw [rounds_succ]
  go_wp2_with fail
  go_ret
  exact ⟨rfl, below_grow (below_grow (below_box _ _) _) _⟩

set_option maxHeartbeats 1000000 in
theorem May_not (w : World) (kb : Nat) (t : TypeId) (h : Blk w kb t kidC) : Calls Try.prog 82 #[.agg (notC kb)] w fun e w' => e = .returned (.bool true) ∧ Below w.heap.size w w' := by
  have HM := Lib.hid (may_not (w.alloc (.cells (notC kb) 49)) kb t (h.old _))
  clear h
  go_enter Try.func82, Try.ntmps82
  go_wp2_with fail
  ((with_reducible refine (HM.out).mono ?_); rintro e w' ⟨rfl, hbw⟩)
  obtain ⟨m, rfl⟩ := grow_mk hbw
  clear hbw
  go_wp2_with fail
  go_ret
  exact ⟨rfl, below_grow (below_box _ _) _⟩

end Go.Proofs.Ytgjhaanpkfheeaa

namespace Go.Proofs.Ytgjhaanpkfheeaa
set_option linter.unusedVariables false
set_option linter.unusedSimpArgs false
open Go.RowKit

/-- and, or of two and of three -/
def aF2 (x y : Int) : Int := andG 2 [x, y]
def oF2 (x y : Int) : Int := orG 0 [x, y]
/-- it fits into 64 bits -/
def In64 (x : Int) : Prop := -9223372036854775808 ≤ x ∧ x ≤ 9223372036854775807

theorem ints_new (W : World) (t : TypeId) (l : List Int) (h64 : ∀ x ∈ l, In64 x) (hl : l.length ≤ maxLen) : Ints (W.alloc (.cells (l.map fun x => Value.int .i64 x).toArray t)) (some ⟨W.heap.size, 0, none⟩) l.length l.length W.heap.size 0 l := by
  have hb := Blk.new W t (l.map fun x => Value.int .i64 x).toArray
  refine ⟨rfl, Nat.le_refl _, hl, fun _ => rfl, fun _ => by simp, fun i x hx => ?_, fun i x hx => h64 x (List.mem_of_getElem? hx)⟩
  have := hb.cell i
  simp only [List.getElem?_toArray, List.getElem?_map, hx, Option.map_some, Nat.zero_add] at this ⊢
  exact this

section
variable (W : World) (t : TypeId) (k : Nat) (hk : W.heap.size = k) {x y z : Int} (hx : In64 x) (hy : In64 y) (hz : In64 z)
include hk hx
include hy
theorem and2_any : Calls Try.prog 36 #[.slice (some ⟨k, 0, none⟩) 2 2] (W.alloc (.cells #[.int .i64 x, .int .i64 y] t)) fun e w' => e = .returned (.int .i64 (aF2 x y)) ∧ Below (W.alloc (.cells #[.int .i64 x, .int .i64 y] t)).heap.size (W.alloc (.cells #[.int .i64 x, .int .i64 y] t)) w' := by
  subst hk; exact (and_any _ _ _ _ _ [x, y] _ (ints_new W t [x, y] (by simp [hx, hy]) (by show 2 ≤ maxLen; decide))).mono fun _ _ ⟨h1, h2⟩ => ⟨h1, h2 ▸ Below.refl _ _⟩
theorem or2_any : Calls Try.prog 38 #[.slice (some ⟨k, 0, none⟩) 2 2] (W.alloc (.cells #[.int .i64 x, .int .i64 y] t)) fun e w' => e = .returned (.int .i64 (oF2 x y)) ∧ Below (W.alloc (.cells #[.int .i64 x, .int .i64 y] t)).heap.size (W.alloc (.cells #[.int .i64 x, .int .i64 y] t)) w' := by
  subst hk; exact (or_any _ _ _ _ _ [x, y] _ (ints_new W t [x, y] (by simp [hx, hy]) (by show 2 ≤ maxLen; decide))).mono fun _ _ ⟨h1, h2⟩ => ⟨h1, h2 ▸ Below.refl _ _⟩
include hz
end

theorem in64_lit {x : Int} (h : decide (-9223372036854775808 ≤ x ∧ x ≤ 9223372036854775807) = true) : In64 x := by simpa [In64] using h

set_option maxHeartbeats 2000000 in
theorem awakeC_any (w : World) : Calls Try.prog 42 #[] w fun e w' => e = .returned (.bool true) ∧ Below w.heap.size w w' := by
  have HA := Lib.hid (fun W k h => and2_any W 3 k h (x := 2) (y := 1) (in64_lit (by decide)) (in64_lit (by decide)))
  have HO := Lib.hid (fun W k h => or2_any W 3 k h (x := 0) (y := 2) (in64_lit (by decide)) (in64_lit (by decide)))
  rw [show aF2 2 1 = 1 by decide] at HA
  rw [show oF2 0 2 = 2 by decide] at HO
  have HM := Lib.hid (fun w => May_not w)
  go_enter Try.func42, Try.ntmps42
  go_upto_region 2 with fail
  have hb : Below w.heap.size w ((w.alloc (.cells kidC 49)).alloc (.cells (notC w.heap.size) 49)) := (below_box _ _).alloc (by simp) _
  have hk : Blk ((w.alloc (.cells kidC 49)).alloc (.cells (notC w.heap.size) 49)) w.heap.size 49 kidC := (Blk.new _ _ _).old _
  have hn : Blk ((w.alloc (.cells kidC 49)).alloc (.cells (notC w.heap.size) 49)) (w.heap.size + 1) 49 (notC w.heap.size) := Blk.new2 _ _ _ _
  generalize World.alloc _ _ = wa at *
  go_wp2_with fail
  ((with_reducible refine (HA.out _ _ rfl).mono ?_); rintro e w' ⟨rfl, hbw⟩)
  obtain ⟨m1, rfl⟩ := grow_mk hbw
  clear hbw
  replace hb := below_grow (hb.alloc hb.size (.cells #[.int .i64 2, .int .i64 1] 3)) m1
  replace hk := (hk.old (.cells #[.int .i64 2, .int .i64 1] 3)).grow m1
  replace hn := (hn.old (.cells #[.int .i64 2, .int .i64 1] 3)).grow m1
  generalize grow _ _ = wb at *
  go_wp2_with fail
  ((with_reducible refine (HO.out _ _ rfl).mono ?_); rintro e w' ⟨rfl, hbw⟩)
  obtain ⟨m2, rfl⟩ := grow_mk hbw
  clear hbw
  replace hb := below_grow (hb.alloc hb.size (.cells #[.int .i64 0, .int .i64 2] 3)) m2
  replace hk := (hk.old (.cells #[.int .i64 0, .int .i64 2] 3)).grow m2
  replace hn := (hn.old (.cells #[.int .i64 0, .int .i64 2] 3)).grow m2
  generalize grow _ _ = wc at *
  have c0 : wc.cell? ⟨w.heap.size + 1, 0, none⟩ = some (.int .i64 3) := hn.cell 0
  have c1 : wc.cell? ⟨w.heap.size + 1, 1, none⟩ = some (.slice (some ⟨w.heap.size, 0, none⟩) 1 1) := hn.cell 1
  have c2 : wc.cell? ⟨w.heap.size + 1, 2, none⟩ = some (.int .i64 0) := hn.cell 2
  have c3 : wc.cell? ⟨w.heap.size + 1, 3, none⟩ = some (.int .i64 0) := hn.cell 3
  have c4 : wc.cell? ⟨w.heap.size + 1, 4, none⟩ = some sv0 := hn.cell 4
  have c5 : wc.cell? ⟨w.heap.size + 1, 5, none⟩ = some (.int .i64 0) := hn.cell 5
  have c6 : wc.cell? ⟨w.heap.size + 1, 6, none⟩ = some (.int .i64 0) := hn.cell 6
  have c7 : wc.cell? ⟨w.heap.size + 1, 7, none⟩ = some (.int .i64 0) := hn.cell 7
  have c8 : wc.cell? ⟨w.heap.size + 1, 8, none⟩ = some (.int .i64 0) := hn.cell 8
  have c9 : wc.cell? ⟨w.heap.size + 1, 9, none⟩ = some (.int .i64 0) := hn.cell 9
  have c10 : wc.cell? ⟨w.heap.size + 1, 10, none⟩ = some (.slice none 0 0) := hn.cell 10
  have c11 : wc.cell? ⟨w.heap.size + 1, 11, none⟩ = some sv0 := hn.cell 11
  have c12 : wc.cell? ⟨w.heap.size + 1, 12, none⟩ = some sv0 := hn.cell 12
  have c13 : wc.cell? ⟨w.heap.size + 1, 13, none⟩ = some (.bool false) := hn.cell 13
  go_wp2_with fail
  ((with_reducible refine (HM.out _ _ _ hk).mono ?_); rintro e w' ⟨rfl, hbw⟩)
  obtain ⟨m3, rfl⟩ := grow_mk hbw
  clear hbw
  go_wp2_with fail
  go_ret
  exact ⟨rfl, below_grow hb _⟩

end Go.Proofs.Ytgjhaanpkfheeaa
