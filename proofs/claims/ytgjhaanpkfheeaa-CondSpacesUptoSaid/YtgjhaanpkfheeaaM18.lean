/- Of my texts: TokN, TokQ, ValT, ValA, ValB, ValC, Safe, Copied, Stack, Shut, Split, CalcA, Qd, Values, Join, Word, OpenV. -/
import Derived.Test.YtgjhaanpkfheeaaM02
import Derived.Test.YtgjhaanpkfheeaaM03
import Derived.Test.YtgjhaanpkfheeaaM04
import Derived.Test.YtgjhaanpkfheeaaM05
import Derived.Test.YtgjhaanpkfheeaaM07
import Derived.Test.YtgjhaanpkfheeaaM08
import Derived.Test.YtgjhaanpkfheeaaM10
import Derived.Test.YtgjhaanpkfheeaaM11
import Derived.Test.YtgjhaanpkfheeaaM14
import Derived.Test.YtgjhaanpkfheeaaM16
import Derived.Test.YtgjhaanpkfheeaaM17
import Derived.Lib.ItoaNum
import Derived.OwnWalk
import Derived.Deep.CutBlock
import Derived.Deep.DeepCutAuto
import Derived.SizedLaws
namespace Go.Proofs.Ytgjhaanpkfheeaa
set_option linter.unusedVariables false
set_option linter.unusedSimpArgs false
open Go.RowKit

theorem Sl.mid {w : World} {oa oa' : Option Addr} {n cap b o : Nat} {vs : List Value} (h : Sl w oa n cap b o 1 vs) {i e : Nat} (hi : i ≤ e) (he : e ≤ n) (ha : 0 < e - i → oa' = some ⟨b, o + i, none⟩) :
    Sl w oa' (e - i) (cap - i) b (o + i) 1 ((vs.drop i).take (e - i)) :=
  ⟨by have := h.len; rw [List.length_take, List.length_drop]; omega, by have := h.le; omega, by have := h.max; omega, fun hp => ⟨ha hp, (h.lies (by omega)).2⟩, fun j v hv => by
    rw [List.getElem?_take] at hv
    split at hv
    · rw [List.getElem?_drop] at hv
      rw [show o + i + j = o + (i + j) by omega]
      exact h.cell (i + j) v hv
    · cases hv⟩
end Go.Proofs.Ytgjhaanpkfheeaa

namespace Go.Proofs.Ytgjhaanpkfheeaa
set_option linter.unusedVariables false
set_option linter.unusedSimpArgs false
open Go.RowKit

def tkcells (t : Tk) : List Value := [.int .i64 t.kind, .string ⟨t.text.toArray⟩, .int .i64 t.num.1, .int .i64 t.num.2, .bool t.int, .bool t.id]
def toksV (l : List Tk) : List Value := l.flatMap tkcells
theorem elTok : El 136 72 (.agg #[.int .i64 0, .string ⟨#[]⟩, .int .i64 0, .int .i64 0, .bool false, .bool false]) 6 48 := ⟨Try.underlying136, by kernel_rfl, rfl, by decide⟩

end Go.Proofs.Ytgjhaanpkfheeaa

namespace Go.Proofs.Ytgjhaanpkfheeaa
set_option linter.unusedVariables false
set_option linter.unusedSimpArgs false
open Go.ChangeShapes Go.WideShapes Go.ChangeAt Go.RowKit Go.Deep

/-- a component value, with the place of its kids -/
inductive Vl where
  | mk (t : Tk) (oa : Option Addr) (b o cap : Nat) (kids : List Vl)
instance : Inhabited Vl := ⟨.mk ⟨0, [], (0, 0), false, false⟩ none 0 0 0 []⟩

def vcells : Vl → List Value
  | .mk t oa _ _ cap kids => tkcells t ++ [.slice oa kids.length cap]
theorem vcells_length (v : Vl) : (vcells v).length = 7 := by cases v; rfl

mutual
def Vl.c : Vl → Vt
  | .mk t _ _ _ _ kids => .mk t (Vl.cs kids)
def Vl.cs : List Vl → List Vt
  | [] => []
  | x :: r => x.c :: Vl.cs r
end
theorem Vl.cs_map : ∀ l : List Vl, Vl.cs l = l.map Vl.c
  | [] => rfl
  | x :: r => by rw [Vl.cs, Vl.cs_map r]; rfl
theorem Vl.c_mk (t : Tk) (oa : Option Addr) (b o cap : Nat) (kids : List Vl) : (Vl.mk t oa b o cap kids).c = .mk t (kids.map Vl.c) := by
  rw [Vl.c, Vl.cs_map]

/-- a token whose numbers are numbers -/
def Tk64 (t : Tk) : Prop := I64 t.kind ∧ Is64 t.num ∧ t.text.length ≤ 9223372036854775807

/-- the value lies in the world; its height is below h -/
def VlIn (w : World) : Nat → Vl → Prop
  | 0, _ => False
  | h + 1, .mk t oa b o cap kids => Tk64 t ∧ kids.length * 72 ≤ 140737488355328 ∧ Sl w oa kids.length cap b o 7 (kids.flatMap vcells) ∧ ∀ (i : Nat) (x : Vl), kids[i]? = some x → VlIn w h x
/-- values lie behind a slice -/
structure VsIn (w : World) (h : Nat) (oa : Option Addr) (cap b o : Nat) (l : List Vl) : Prop where
  small : l.length * 72 ≤ 140737488355328
  sl : Sl w oa l.length cap b o 7 (l.flatMap vcells)
  each : ∀ (i : Nat) (x : Vl), l[i]? = some x → VlIn w h x

theorem VlIn.below : ∀ (h : Nat) {v : Vl} {w w' : World}, VlIn w h v → Below w.heap.size w w' → VlIn w' h v
  | 0, _, _, _, hx, _ => hx.elim
  | h + 1, .mk t oa b o cap kids, w, w', hx, hb => ⟨hx.1, hx.2.1, hx.2.2.1.below hb, fun i x hi => VlIn.below h (hx.2.2.2 i x hi) hb⟩
theorem VlIn.mono : ∀ (h h' : Nat) {w : World} {v : Vl}, h ≤ h' → VlIn w h v → VlIn w h' v
  | 0, _, _, _, _, hx => hx.elim
  | h + 1, 0, _, _, hl, _ => by omega
  | h + 1, h' + 1, w, .mk t oa b o cap kids, hl, hx => ⟨hx.1, hx.2.1, hx.2.2.1, fun i x hi => VlIn.mono h h' (by omega) (hx.2.2.2 i x hi)⟩
theorem VsIn.below {w w' : World} {h : Nat} {oa : Option Addr} {cap b o : Nat} {l : List Vl} (hs : VsIn w h oa cap b o l) (hb : Below w.heap.size w w') : VsIn w' h oa cap b o l :=
  ⟨hs.small, hs.sl.below hb, fun i x hi => (hs.each i x hi).below h hb⟩
theorem VsIn.mono {w : World} {h h' : Nat} {oa : Option Addr} {cap b o : Nat} {l : List Vl} (hs : VsIn w h oa cap b o l) (hl : h ≤ h') : VsIn w h' oa cap b o l :=
  ⟨hs.small, hs.sl, fun i x hi => (hs.each i x hi).mono h h' hl⟩
theorem VlIn.kids {w : World} {h : Nat} {t : Tk} {oa : Option Addr} {b o cap : Nat} {kids : List Vl} (hx : VlIn w (h + 1) (.mk t oa b o cap kids)) : VsIn w h oa cap b o kids := ⟨hx.2.1, hx.2.2.1, hx.2.2.2⟩

/-- the cells of one among things of so many cells -/
theorem flat_at {α : Type} {f : α → List Value} {sz : Nat} (hf : ∀ x, (f x).length = sz) : ∀ (l : List α) (i : Nat) (x : α) (j : Nat) (v : Value), l[i]? = some x → (f x)[j]? = some v → (l.flatMap f)[i * sz + j]? = some v
  | [], i, x, j, v, h, _ => by simp at h
  | y :: l, 0, x, j, v, h, hv => by
    obtain rfl := Option.some.inj h
    rw [List.flatMap_cons, Nat.zero_mul, Nat.zero_add, List.getElem?_append_left (List.getElem?_eq_some_iff.1 hv).1]
    exact hv
  | y :: l, i + 1, x, j, v, h, hv => by
    have ih := flat_at hf l i x j v (by simpa using h) hv
    have := hf y
    rw [List.flatMap_cons, List.getElem?_append_right (by rw [this, Nat.succ_mul]; omega), this, show (i + 1) * sz + j - sz = i * sz + j by rw [Nat.succ_mul]; omega]
    exact ih
theorem flat_split {α : Type} {f : α → List Value} {sz : Nat} (hf : ∀ x, (f x).length = sz) (hz : 0 < sz) : ∀ (l : List α) (k : Nat) (v : Value), (l.flatMap f)[k]? = some v → ∃ i x j, l[i]? = some x ∧ (f x)[j]? = some v ∧ k = i * sz + j
  | [], k, v, h => by simp at h
  | y :: l, k, v, h => by
    have hy := hf y
    rw [List.flatMap_cons] at h
    rcases Nat.lt_or_ge k sz with hk | hk
    · rw [List.getElem?_append_left (by omega)] at h
      exact ⟨0, y, k, rfl, h, by omega⟩
    · rw [List.getElem?_append_right (by omega), hy] at h
      obtain ⟨i, x, j, h1, h2, h3⟩ := flat_split hf hz l (k - sz) v h
      exact ⟨i + 1, x, j, by simpa using h1, h2, by rw [Nat.succ_mul]; omega⟩
theorem flat_length {α : Type} {f : α → List Value} {sz : Nat} (hf : ∀ x, (f x).length = sz) : ∀ l : List α, (l.flatMap f).length = l.length * sz
  | [] => by simp
  | y :: l => by rw [List.flatMap_cons, List.length_append, hf, flat_length hf l, List.length_cons, Nat.succ_mul]; omega

theorem VsIn.cell {w : World} {h : Nat} {oa : Option Addr} {cap b o : Nat} {l : List Vl} (hs : VsIn w h oa cap b o l) {i : Nat} {x : Vl} (hi : l[i]? = some x) {j : Nat} {v : Value} (hv : (vcells x)[j]? = some v) : w.cell? ⟨b, o + i * 7 + j, none⟩ = some v := by
  rw [show o + i * 7 + j = o + (i * 7 + j) by omega]
  exact hs.sl.cell _ _ (flat_at vcells_length l i x j v hi hv)

theorem cellsToken : Try.prog.cellsOf 72 = 6 := by kernel_rfl
theorem cellsValue : Try.prog.cellsOf 74 = 7 := by kernel_rfl
theorem cellsValues : Try.prog.cellsOf 61 = 1 := by kernel_rfl
theorem bytesValue : Try.prog.bytesOf 74 = 72 := by kernel_rfl
theorem cellsStr : Try.prog.cellsOf 9 = 1 := by kernel_rfl
theorem cellsBl : Try.prog.cellsOf 4 = 1 := by kernel_rfl
theorem six {α : Type} {l : List α} (h : l.length = 6) : ∃ a b c d e f, l = [a, b, c, d, e, f] := by
  match l, h with
  | [a, b, c, d, e, f], _ => exact ⟨a, b, c, d, e, f, rfl⟩
theorem seven {α : Type} {l : List α} (h : l.length = 7) : ∃ a b c d e f g, l = [a, b, c, d, e, f, g] := by
  match l, h with
  | [a, b, c, d, e, f, g], _ => exact ⟨a, b, c, d, e, f, g, rfl⟩

section
variable {H : Type} {enc : TypeId × Value → H} {w : World} {base : Nat} {spare : Nat → Bool} {held : Bool}

set_option maxRecDepth 100000 in
theorem open_tk (fuel : Nat) (cs : List Value) (x : DataW H × List MemPlace) (h : DataW.trod enc Try.prog w base spare held fuel 72 cs = some x) : ∃ t : Tk, cs = tkcells t ∧ Tk64 t := by
  obtain ⟨xs, n, rfl, rfl, hl, hlen, hf⟩ := DataW.trod_struct Try.underlying72 h
  obtain ⟨y0, y1, y2, y3, y4, rfl⟩ := five hlen
  obtain ⟨c0, c1, c2, c3, c4, c5, rfl⟩ := six (hl.trans cellsToken)
  have g0 := hf 0 _ rfl
  have g1 := hf 1 _ rfl
  have g2 := hf 2 _ rfl
  have g3 := hf 3 _ rfl
  have g4 := hf 4 _ rfl
  simp only [List.getElem_toArray, List.getElem_cons_zero, List.getElem_cons_succ, cellsInt, cellsRat, cellsStr, cellsBl, List.drop_zero, List.drop_succ_cons, List.take_succ_cons, List.take_zero, List.getElem?_cons_zero, List.getElem?_cons_succ] at g0 g1 g2 g3 g4
  obtain ⟨k, e0, rfl, w0⟩ := DataW.trod_int Try.underlying3 g0
  obtain ⟨s, e1, rfl, ws⟩ := DataW.trod_string Try.underlying9 g1
  obtain ⟨ys, m, rfl, rfl, _, hlen2, hf2⟩ := DataW.trod_struct Try.underlying23 g2
  obtain ⟨z0, z1, rfl⟩ := two hlen2
  have r0 := hf2 0 _ rfl
  have r1 := hf2 1 _ rfl
  simp only [List.getElem_toArray, List.getElem_cons_zero, List.getElem_cons_succ, cellsInt64, List.drop_zero, List.drop_succ_cons, List.take_succ_cons, List.take_zero, List.getElem?_cons_zero, List.getElem?_cons_succ] at r0 r1
  obtain ⟨nn, en, rfl, wn⟩ := DataW.trod_int Try.underlying2 r0
  obtain ⟨dd, ed, rfl, wd⟩ := DataW.trod_int Try.underlying2 r1
  obtain ⟨b1, e3, rfl⟩ := DataW.trod_bool Try.underlying4 g3
  obtain ⟨b2, e4, rfl⟩ := DataW.trod_bool Try.underlying4 g4
  simp only [List.cons.injEq, and_true] at e0 e1 en ed e3 e4
  subst e0 e1 en ed e3 e4
  obtain ⟨⟨sl⟩⟩ := s
  exact ⟨⟨k, sl, (nn, dd), b1, b2⟩, rfl, int_of_wf w0, is64_of_wf wn wd, ws⟩

end
end Go.Proofs.Ytgjhaanpkfheeaa

namespace Go.Proofs.Ytgjhaanpkfheeaa
set_option linter.unusedVariables false
set_option linter.unusedSimpArgs false
open Go.RowKit

theorem mayV_nil (n : Nat) : mayV n [] = true := by rw [mayV]
theorem mayV_cons (n : Nat) (t : Tk) (k r : List Vt) : mayV n (.mk t k :: r) = (decide (1 ≤ t.kind) && decide (t.kind ≤ 24) && (if closeF t.kind = 0 then k.isEmpty else match n with
      | 0 => false
      | n + 1 => mayV n k) && mayV n r) := by
  rw [mayV.eq_def]
  cases n <;> rfl

set_option maxHeartbeats 1000000 in
theorem closer_any (k : Int) (w : World) : Calls Try.prog 117 #[.int .i64 k] w fun e w' => e = .returned (.int .i64 (closeF k)) ∧ w' = w := by
  have ways : k ≤ 1 ∨ k = 2 ∨ (3 ≤ k ∧ k ≤ 18) ∨ k = 19 ∨ k = 20 ∨ k = 21 ∨ k = 22 ∨ k = 23 ∨ 24 ≤ k := by omega
  rcases ways with h | rfl | h | rfl | rfl | rfl | rfl | rfl | h
  · -- None..1
    have g0 : ((k == 2)) = false := by simp; omega
    have g1 : ((k == 21)) = false := by simp; omega
    have g2 : ((k == 19)) = false := by simp; omega
    have g3 : ((k == 23)) = false := by simp; omega
    have hv : closeF k = 0 := by unfold closeF; rw [if_neg (by omega), if_neg (by omega), if_neg (by omega)]
    have HV := Lib.hid hv
    clear hv
    go_enter Try.func117, Try.ntmps117
    go_wp2_with fail
    go_ret
    exact ⟨by rw [HV.out]; rfl, rfl⟩
  · -- 2..2
    have hv : closeF (2) = 22 := rfl
    have HV := Lib.hid hv
    clear hv
    go_enter Try.func117, Try.ntmps117
    go_wp2_with fail
    go_ret
    exact ⟨by rw [HV.out]; rfl, rfl⟩
  · -- 3..18
    have g0 : ((k == 2)) = false := by simp; omega
    have g1 : ((k == 21)) = false := by simp; omega
    have g2 : ((k == 19)) = false := by simp; omega
    have g3 : ((k == 23)) = false := by simp; omega
    have hv : closeF k = 0 := by unfold closeF; rw [if_neg (by omega), if_neg (by omega), if_neg (by omega)]
    have HV := Lib.hid hv
    clear hv
    go_enter Try.func117, Try.ntmps117
    go_wp2_with fail
    go_ret
    exact ⟨by rw [HV.out]; rfl, rfl⟩
  · -- 19..19
    have hv : closeF (19) = 20 := rfl
    have HV := Lib.hid hv
    clear hv
    go_enter Try.func117, Try.ntmps117
    go_wp2_with fail
    go_ret
    exact ⟨by rw [HV.out]; rfl, rfl⟩
  · -- 20..20
    have hv : closeF (20) = 0 := rfl
    have HV := Lib.hid hv
    clear hv
    go_enter Try.func117, Try.ntmps117
    go_wp2_with fail
    go_ret
    exact ⟨by rw [HV.out]; rfl, rfl⟩
  · -- 21..21
    have hv : closeF (21) = 22 := rfl
    have HV := Lib.hid hv
    clear hv
    go_enter Try.func117, Try.ntmps117
    go_wp2_with fail
    go_ret
    exact ⟨by rw [HV.out]; rfl, rfl⟩
  · -- 22..22
    have hv : closeF (22) = 0 := rfl
    have HV := Lib.hid hv
    clear hv
    go_enter Try.func117, Try.ntmps117
    go_wp2_with fail
    go_ret
    exact ⟨by rw [HV.out]; rfl, rfl⟩
  · -- 23..23
    have hv : closeF (23) = 24 := rfl
    have HV := Lib.hid hv
    clear hv
    go_enter Try.func117, Try.ntmps117
    go_wp2_with fail
    go_ret
    exact ⟨by rw [HV.out]; rfl, rfl⟩
  · -- 24..None
    have g0 : ((k == 2)) = false := by simp; omega
    have g1 : ((k == 21)) = false := by simp; omega
    have g2 : ((k == 19)) = false := by simp; omega
    have g3 : ((k == 23)) = false := by simp; omega
    have hv : closeF k = 0 := by unfold closeF; rw [if_neg (by omega), if_neg (by omega), if_neg (by omega)]
    have HV := Lib.hid hv
    clear hv
    go_enter Try.func117, Try.ntmps117
    go_wp2_with fail
    go_ret
    exact ⟨by rw [HV.out]; rfl, rfl⟩

set_option maxHeartbeats 1000000 in
theorem rcloser_any (k : Int) (w : World) : Calls Try.prog 124 #[.int .i64 k] w fun e w' => e = .returned (.int .i64 (closeF k)) ∧ w' = w := by
  have ways : k ≤ 1 ∨ k = 2 ∨ (3 ≤ k ∧ k ≤ 18) ∨ k = 19 ∨ k = 20 ∨ k = 21 ∨ k = 22 ∨ k = 23 ∨ 24 ≤ k := by omega
  rcases ways with h | rfl | h | rfl | rfl | rfl | rfl | rfl | h
  · -- None..1
    have g0 : ((k == 2)) = false := by simp; omega
    have g1 : ((k == 21)) = false := by simp; omega
    have g2 : ((k == 19)) = false := by simp; omega
    have g3 : ((k == 23)) = false := by simp; omega
    have hv : closeF k = 0 := by unfold closeF; rw [if_neg (by omega), if_neg (by omega), if_neg (by omega)]
    have HV := Lib.hid hv
    clear hv
    go_enter Try.func124, Try.ntmps124
    go_wp2_with fail
    go_ret
    exact ⟨by rw [HV.out]; rfl, rfl⟩
  · -- 2..2
    have hv : closeF (2) = 22 := rfl
    have HV := Lib.hid hv
    clear hv
    go_enter Try.func124, Try.ntmps124
    go_wp2_with fail
    go_ret
    exact ⟨by rw [HV.out]; rfl, rfl⟩
  · -- 3..18
    have g0 : ((k == 2)) = false := by simp; omega
    have g1 : ((k == 21)) = false := by simp; omega
    have g2 : ((k == 19)) = false := by simp; omega
    have g3 : ((k == 23)) = false := by simp; omega
    have hv : closeF k = 0 := by unfold closeF; rw [if_neg (by omega), if_neg (by omega), if_neg (by omega)]
    have HV := Lib.hid hv
    clear hv
    go_enter Try.func124, Try.ntmps124
    go_wp2_with fail
    go_ret
    exact ⟨by rw [HV.out]; rfl, rfl⟩
  · -- 19..19
    have hv : closeF (19) = 20 := rfl
    have HV := Lib.hid hv
    clear hv
    go_enter Try.func124, Try.ntmps124
    go_wp2_with fail
    go_ret
    exact ⟨by rw [HV.out]; rfl, rfl⟩
  · -- 20..20
    have hv : closeF (20) = 0 := rfl
    have HV := Lib.hid hv
    clear hv
    go_enter Try.func124, Try.ntmps124
    go_wp2_with fail
    go_ret
    exact ⟨by rw [HV.out]; rfl, rfl⟩
  · -- 21..21
    have hv : closeF (21) = 22 := rfl
    have HV := Lib.hid hv
    clear hv
    go_enter Try.func124, Try.ntmps124
    go_wp2_with fail
    go_ret
    exact ⟨by rw [HV.out]; rfl, rfl⟩
  · -- 22..22
    have hv : closeF (22) = 0 := rfl
    have HV := Lib.hid hv
    clear hv
    go_enter Try.func124, Try.ntmps124
    go_wp2_with fail
    go_ret
    exact ⟨by rw [HV.out]; rfl, rfl⟩
  · -- 23..23
    have hv : closeF (23) = 24 := rfl
    have HV := Lib.hid hv
    clear hv
    go_enter Try.func124, Try.ntmps124
    go_wp2_with fail
    go_ret
    exact ⟨by rw [HV.out]; rfl, rfl⟩
  · -- 24..None
    have g0 : ((k == 2)) = false := by simp; omega
    have g1 : ((k == 21)) = false := by simp; omega
    have g2 : ((k == 19)) = false := by simp; omega
    have g3 : ((k == 23)) = false := by simp; omega
    have hv : closeF k = 0 := by unfold closeF; rw [if_neg (by omega), if_neg (by omega), if_neg (by omega)]
    have HV := Lib.hid hv
    clear hv
    go_enter Try.func124, Try.ntmps124
    go_wp2_with fail
    go_ret
    exact ⟨by rw [HV.out]; rfl, rfl⟩

set_option maxRecDepth 20000 in
set_option maxHeartbeats 8000000 in
theorem mayv_any : ∀ (n h : Nat) (l : List Vl) (oa : Option Addr) (cap b o : Nat) (w : World) (D : Int), D = (n : Int) → n ≤ 64 → VsIn w h oa cap b o l →
    Calls Try.prog 96 #[.slice oa l.length cap, .int .i64 D] w fun e w' => e = .returned (.bool (mayV n (l.map Vl.c))) ∧ Below w.heap.size w w' := by
  intro n
  induction n using Nat.strongRecOn with
  | _ n ih =>
    intro h l oa cap b o w D hD hn hs
    obtain ⟨N, hN⟩ : ∃ N, l.length = N := ⟨_, rfl⟩
    rw [hN]
    have hsm := hs.small
    rw [hN] at hsm
    have HS := Lib.hid hs
    have HN := Lib.hid hN
    obtain ⟨M, hM⟩ : ∃ M, mayV n (l.map Vl.c) = M := ⟨_, rfl⟩
    rw [hM]
    have HM := Lib.hid (show mayV n ((l.drop 0).map Vl.c) = M from hM)
    have HIH := Lib.hid ih
    have HDD := Lib.hid hD
    have d0 : 0 ≤ D := by omega
    have d1 : D ≤ 64 := by omega
    clear ih hs hN hM hD
    go_enter Try.func96, Try.ntmps96
    go_wp2_with fail
    go_loopg [9] N (fun q s9 wr => ∃ (i : Nat), s9 = .int .i64 i ∧ Hid (Below w.heap.size w wr) ∧ Hid (mayV n ((l.drop i).map Vl.c) = M) ∧ i ≤ N ∧ N - i ≤ q)
    case atStart => exact ⟨0, rfl, Lib.hid (Below.refl _ _), HM, Nat.zero_le _, by omega⟩
    case round =>
      clear HM
      obtain ⟨i, rfl, hb, hm, hiN, hq⟩ := hrel
      by_cases hi : i < N
      · have gi : decide ((i : Int) < (N : Int)) = true := by simpa using hi
        have gin : decide (i < N) = true := by simpa using hi
        have hil : i < l.length := by rw [HN.out]; exact hi
        have hli : l[i]? = some l[i] := List.getElem?_eq_getElem hil
        have hs2 := HS.out.below hb.out
        have hv := hs2.each i _ hli
        have hm2 := hm.out
        rw [List.drop_eq_getElem_cons hil, List.map_cons] at hm2
        obtain ⟨rfl, hbl⟩ := hs2.sl.lies (by omega)
        obtain ⟨x, hx⟩ : ∃ x, l[i] = x := ⟨_, rfl⟩
        rw [hx] at hli hv hm2
        obtain ⟨t, koa, kb, ko, kcap, kids⟩ := x
        obtain _ | h := h
        · exact hv.elim
        have f0 := hs2.cell hli (j := 0) rfl
        have f1 := hs2.cell hli (j := 1) rfl
        have f2 := hs2.cell hli (j := 2) rfl
        have f3 := hs2.cell hli (j := 3) rfl
        have f4 := hs2.cell hli (j := 4) rfl
        have f5 := hs2.cell hli (j := 5) rfl
        have f6 := hs2.cell hli (j := 6) rfl
        rw [Nat.add_zero] at f0
        rw [Vl.c_mk, mayV_cons] at hm2
        obtain ⟨K, hK⟩ : ∃ K, kids.length = K := ⟨_, rfl⟩
        have hke : (kids.map Vl.c).isEmpty = (K == 0) := by rw [← hK, List.isEmpty_map]; cases kids <;> rfl
        rw [hK] at f6
        have hks := hv.kids
        have h64 := hv.1
        obtain ⟨tk, tt, ⟨tn, td⟩, ti, tid⟩ := t
        obtain ⟨hk64, _, _⟩ := h64
        unfold I64 at hk64
        have hcl := fun w => closer_any tk w
        obtain ⟨C, hC⟩ : ∃ C, closeF tk = C := ⟨_, rfl⟩
        rw [hC] at hcl
        simp only [hC, hke] at hm2
        have HCL := Lib.hid hcl
        have HB := Lib.hid hb.out
        have HMM := Lib.hid hm2
        clear hcl hm2 hm hv hs2 hli hx hC hke
        have hnew := Below.alloc hb.out hb.out.size (.cells #[.int .i64 tk, .string ⟨tt.toArray⟩, .int .i64 tn, .int .i64 td, .bool ti, .bool tid, .slice koa K kcap] 74)
        have HNW := Lib.hid hnew
        have HKS := Lib.hid (hks.below ((Below.refl wr.heap.size wr).alloc (Nat.le_refl _) (.cells #[.int .i64 tk, .string ⟨tt.toArray⟩, .int .i64 tn, .int .i64 td, .bool ti, .bool tid, .slice koa K kcap] 74)))
        clear hnew hks hb
        by_cases hk : 1 ≤ tk ∧ tk ≤ 24
        · have k1 : decide (tk < (1 : Int)) = false := by simp; omega
          have k2 : decide ((24 : Int) < tk) = false := by simp; omega
          by_cases hC0 : C = 0
          · subst hC0
            by_cases hK0 : K = 0
            · have gK : decide ((0 : Int) < (K : Int)) = false := by simp; omega
              have gKn : decide (0 < K) = false := by simp; omega
              have HM2 := Lib.hid (show mayV n ((l.drop (i + 1)).map Vl.c) = M by rw [← HMM.out]; simp [hk.1, hk.2, hK0])
              clear HMM HKS hK0
              go_wp2_with fail
              go_wp2_with fail
              ((with_reducible refine (HCL.out _).mono ?_); rintro e w' ⟨rfl, rfl⟩)
              go_wp2_with fail
              go_roundg (N - (i + 1))
              case measure => omega
              case rel => exact ⟨i + 1, by go_num, HNW, HM2, hi, Nat.le_refl _⟩
            · have gK : decide ((0 : Int) < (K : Int)) = true := by simp; omega
              have gKn : decide (0 < K) = true := by simp; omega
              have HM2 := Lib.hid (show M = false by rw [← HMM.out]; simp [hK0])
              clear HMM HKS hK0
              go_wp2_with fail
              go_wp2_with fail
              ((with_reducible refine (HCL.out _).mono ?_); rintro e w' ⟨rfl, rfl⟩)
              go_wp2_with fail
              go_ret
              exact ⟨ret_bool (by rw [HM2.out]), HNW.out⟩
          · have gC : (C == 0) = false := by simpa using hC0
            by_cases hn0 : n = 0
            · subst hn0
              have gD : (D == 0) = true := by have := HDD.out; simp; omega
              have HM2 := Lib.hid (show M = false by rw [← HMM.out]; simp [hC0])
              clear HMM HKS
              go_wp2_with fail
              go_wp2_with fail
              ((with_reducible refine (HCL.out _).mono ?_); rintro e w' ⟨rfl, rfl⟩)
              go_wp2_with fail
              go_ret
              exact ⟨ret_bool (by rw [HM2.out]), HNW.out⟩
            · obtain ⟨n', rfl⟩ : ∃ n', n = n' + 1 := ⟨n - 1, by omega⟩
              have gD : (D == 0) = false := by have := HDD.out; simp; omega
              have hrec := HIH.out n' (by omega) h kids koa kcap kb ko _ (D - 1) (by have := HDD.out; omega) (by omega) HKS.out
              rw [hK] at hrec
              obtain ⟨R, hR⟩ : ∃ R, mayV n' (kids.map Vl.c) = R := ⟨_, rfl⟩
              rw [hR] at hrec
              have hmm := HMM.out
              simp only [if_neg hC0, hR] at hmm
              have HM2 := Lib.hid hmm
              have HRC := Lib.hid hrec
              clear hrec hR hmm HMM HKS HIH
              go_wp2_with fail
              go_wp2_with fail
              ((with_reducible refine (HCL.out _).mono ?_); rintro e w' ⟨rfl, rfl⟩)
              go_wp2_with fail
              go_wp2_with fail
              ((with_reducible refine (HRC.out).mono ?_); rintro e w' ⟨rfl, hbw⟩)
              obtain ⟨m, rfl⟩ := grow_mk hbw
              clear hbw
              have HNX := Lib.hid (below_grow HNW.out m)
              cases R with
              | true =>
                have HM3 := Lib.hid (show mayV (n' + 1) ((l.drop (i + 1)).map Vl.c) = M by rw [← HM2.out]; simp [hk.1, hk.2])
                clear HM2 HRC HNW
                go_wp2_with fail
                go_roundg (N - (i + 1))
                case measure => omega
                case rel => exact ⟨i + 1, by go_num, HNX, HM3, hi, Nat.le_refl _⟩
              | false =>
                have HM3 := Lib.hid (show M = false by rw [← HM2.out]; simp)
                clear HM2 HRC HNW
                go_wp2_with fail
                go_ret
                exact ⟨ret_bool (by rw [HM3.out]), HNX.out⟩
        · have HM2 := Lib.hid (show M = false by
            rw [← HMM.out]
            have : (decide (1 ≤ tk) && decide (tk ≤ 24)) = false := by rw [Bool.and_eq_false_iff]; simp only [decide_eq_false_iff_not]; omega
            rw [this]; simp)
          have ways : decide (tk < (1 : Int)) = true ∨ decide (tk < (1 : Int)) = false ∧ decide ((24 : Int) < tk) = true := by
            by_cases h1 : tk < 1
            · exact Or.inl (by simpa using h1)
            · exact Or.inr ⟨by simpa using h1, by simp; omega⟩
          clear HMM HKS hk
          rcases ways with k1 | ⟨k1, k2⟩
          all_goals
            go_wp2_with fail
            go_ret
            exact ⟨ret_bool (by rw [HM2.out]), HNW.out⟩
      · obtain rfl : i = N := by omega
        have gi : decide ((i : Int) < (i : Int)) = false := by simp
        have gin : decide (i < i) = false := by simp
        have hm2 := hm.out
        rw [List.drop_eq_nil_of_le (by rw [HN.out]; exact Nat.le_refl _), List.map_nil, mayV_nil] at hm2
        subst hm2
        clear hm HIH
        go_wp2_with fail
        go_ret
        exact ⟨rfl, hb.out⟩

set_option maxRecDepth 20000 in
set_option maxHeartbeats 8000000 in
theorem rmayv_any : ∀ (n h : Nat) (l : List Vl) (oa : Option Addr) (cap b o : Nat) (w : World) (D : Int), D = 64 - (n : Int) → n ≤ 64 → VsIn w h oa cap b o l →
    Calls Try.prog 110 #[.slice oa l.length cap, .int .i64 D] w fun e w' => e = .returned (.bool (mayV n (l.map Vl.c))) ∧ Below w.heap.size w w' := by
  intro n
  induction n using Nat.strongRecOn with
  | _ n ih =>
    intro h l oa cap b o w D hD hn hs
    obtain ⟨N, hN⟩ : ∃ N, l.length = N := ⟨_, rfl⟩
    rw [hN]
    have hsm := hs.small
    rw [hN] at hsm
    have HS := Lib.hid hs
    have HN := Lib.hid hN
    obtain ⟨M, hM⟩ : ∃ M, mayV n (l.map Vl.c) = M := ⟨_, rfl⟩
    rw [hM]
    have HM := Lib.hid (show mayV n ((l.drop 0).map Vl.c) = M from hM)
    have HIH := Lib.hid ih
    have HDD := Lib.hid hD
    have d0 : 0 ≤ D := by omega
    have d1 : D ≤ 64 := by omega
    clear ih hs hN hM hD
    go_enter Try.func110, Try.ntmps110
    go_wp2_with fail
    go_loopg [9] N (fun q s9 wr => ∃ (i : Nat), s9 = .int .i64 i ∧ Hid (Below w.heap.size w wr) ∧ Hid (mayV n ((l.drop i).map Vl.c) = M) ∧ i ≤ N ∧ N - i ≤ q)
    case atStart => exact ⟨0, rfl, Lib.hid (Below.refl _ _), HM, Nat.zero_le _, by omega⟩
    case round =>
      clear HM
      obtain ⟨i, rfl, hb, hm, hiN, hq⟩ := hrel
      by_cases hi : i < N
      · have gi : decide ((i : Int) < (N : Int)) = true := by simpa using hi
        have gin : decide (i < N) = true := by simpa using hi
        have hil : i < l.length := by rw [HN.out]; exact hi
        have hli : l[i]? = some l[i] := List.getElem?_eq_getElem hil
        have hs2 := HS.out.below hb.out
        have hv := hs2.each i _ hli
        have hm2 := hm.out
        rw [List.drop_eq_getElem_cons hil, List.map_cons] at hm2
        obtain ⟨rfl, hbl⟩ := hs2.sl.lies (by omega)
        obtain ⟨x, hx⟩ : ∃ x, l[i] = x := ⟨_, rfl⟩
        rw [hx] at hli hv hm2
        obtain ⟨t, koa, kb, ko, kcap, kids⟩ := x
        obtain _ | h := h
        · exact hv.elim
        have f0 := hs2.cell hli (j := 0) rfl
        have f1 := hs2.cell hli (j := 1) rfl
        have f2 := hs2.cell hli (j := 2) rfl
        have f3 := hs2.cell hli (j := 3) rfl
        have f4 := hs2.cell hli (j := 4) rfl
        have f5 := hs2.cell hli (j := 5) rfl
        have f6 := hs2.cell hli (j := 6) rfl
        rw [Nat.add_zero] at f0
        rw [Vl.c_mk, mayV_cons] at hm2
        obtain ⟨K, hK⟩ : ∃ K, kids.length = K := ⟨_, rfl⟩
        have hke : (kids.map Vl.c).isEmpty = (K == 0) := by rw [← hK, List.isEmpty_map]; cases kids <;> rfl
        rw [hK] at f6
        have hks := hv.kids
        have h64 := hv.1
        obtain ⟨tk, tt, ⟨tn, td⟩, ti, tid⟩ := t
        obtain ⟨hk64, _, _⟩ := h64
        unfold I64 at hk64
        have hcl := fun w => rcloser_any tk w
        obtain ⟨C, hC⟩ : ∃ C, closeF tk = C := ⟨_, rfl⟩
        rw [hC] at hcl
        simp only [hC, hke] at hm2
        have HCL := Lib.hid hcl
        have HB := Lib.hid hb.out
        have HMM := Lib.hid hm2
        clear hcl hm2 hm hv hs2 hli hx hC hke
        have hnew := Below.alloc hb.out hb.out.size (.cells #[.int .i64 tk, .string ⟨tt.toArray⟩, .int .i64 tn, .int .i64 td, .bool ti, .bool tid, .slice koa K kcap] 74)
        have HNW := Lib.hid hnew
        have HKS := Lib.hid (hks.below ((Below.refl wr.heap.size wr).alloc (Nat.le_refl _) (.cells #[.int .i64 tk, .string ⟨tt.toArray⟩, .int .i64 tn, .int .i64 td, .bool ti, .bool tid, .slice koa K kcap] 74)))
        clear hnew hks hb
        by_cases hk : 1 ≤ tk ∧ tk ≤ 24
        · have k1 : decide (tk < (1 : Int)) = false := by simp; omega
          have k2 : decide ((24 : Int) < tk) = false := by simp; omega
          by_cases hC0 : C = 0
          · subst hC0
            by_cases hK0 : K = 0
            · have gK : decide ((0 : Int) < (K : Int)) = false := by simp; omega
              have gKn : decide (0 < K) = false := by simp; omega
              have HM2 := Lib.hid (show mayV n ((l.drop (i + 1)).map Vl.c) = M by rw [← HMM.out]; simp [hk.1, hk.2, hK0])
              clear HMM HKS hK0
              go_wp2_with fail
              go_wp2_with fail
              ((with_reducible refine (HCL.out _).mono ?_); rintro e w' ⟨rfl, rfl⟩)
              go_wp2_with fail
              go_roundg (N - (i + 1))
              case measure => omega
              case rel => exact ⟨i + 1, by go_num, HNW, HM2, hi, Nat.le_refl _⟩
            · have gK : decide ((0 : Int) < (K : Int)) = true := by simp; omega
              have gKn : decide (0 < K) = true := by simp; omega
              have HM2 := Lib.hid (show M = false by rw [← HMM.out]; simp [hK0])
              clear HMM HKS hK0
              go_wp2_with fail
              go_wp2_with fail
              ((with_reducible refine (HCL.out _).mono ?_); rintro e w' ⟨rfl, rfl⟩)
              go_wp2_with fail
              go_ret
              exact ⟨ret_bool (by rw [HM2.out]), HNW.out⟩
          · have gC : (C == 0) = false := by simpa using hC0
            by_cases hn0 : n = 0
            · subst hn0
              have gD : decide ((64 : Int) ≤ D) = true := by have := HDD.out; simp; omega
              have HM2 := Lib.hid (show M = false by rw [← HMM.out]; simp [hC0])
              clear HMM HKS
              go_wp2_with fail
              go_wp2_with fail
              ((with_reducible refine (HCL.out _).mono ?_); rintro e w' ⟨rfl, rfl⟩)
              go_wp2_with fail
              go_ret
              exact ⟨ret_bool (by rw [HM2.out]), HNW.out⟩
            · obtain ⟨n', rfl⟩ : ∃ n', n = n' + 1 := ⟨n - 1, by omega⟩
              have gD : decide ((64 : Int) ≤ D) = false := by have := HDD.out; simp; omega
              have hrec := HIH.out n' (by omega) h kids koa kcap kb ko _ (D + 1) (by have := HDD.out; omega) (by omega) HKS.out
              rw [hK] at hrec
              obtain ⟨R, hR⟩ : ∃ R, mayV n' (kids.map Vl.c) = R := ⟨_, rfl⟩
              rw [hR] at hrec
              have hmm := HMM.out
              simp only [if_neg hC0, hR] at hmm
              have HM2 := Lib.hid hmm
              have HRC := Lib.hid hrec
              clear hrec hR hmm HMM HKS HIH
              go_wp2_with fail
              go_wp2_with fail
              ((with_reducible refine (HCL.out _).mono ?_); rintro e w' ⟨rfl, rfl⟩)
              go_wp2_with fail
              go_wp2_with fail
              ((with_reducible refine (HRC.out).mono ?_); rintro e w' ⟨rfl, hbw⟩)
              obtain ⟨m, rfl⟩ := grow_mk hbw
              clear hbw
              have HNX := Lib.hid (below_grow HNW.out m)
              cases R with
              | true =>
                have HM3 := Lib.hid (show mayV (n' + 1) ((l.drop (i + 1)).map Vl.c) = M by rw [← HM2.out]; simp [hk.1, hk.2])
                clear HM2 HRC HNW
                go_wp2_with fail
                go_roundg (N - (i + 1))
                case measure => omega
                case rel => exact ⟨i + 1, by go_num, HNX, HM3, hi, Nat.le_refl _⟩
              | false =>
                have HM3 := Lib.hid (show M = false by rw [← HM2.out]; simp)
                clear HM2 HRC HNW
                go_wp2_with fail
                go_ret
                exact ⟨ret_bool (by rw [HM3.out]), HNX.out⟩
        · have HM2 := Lib.hid (show M = false by
            rw [← HMM.out]
            have : (decide (1 ≤ tk) && decide (tk ≤ 24)) = false := by rw [Bool.and_eq_false_iff]; simp only [decide_eq_false_iff_not]; omega
            rw [this]; simp)
          have ways : decide (tk < (1 : Int)) = true ∨ decide (tk < (1 : Int)) = false ∧ decide ((24 : Int) < tk) = true := by
            by_cases h1 : tk < 1
            · exact Or.inl (by simpa using h1)
            · exact Or.inr ⟨by simpa using h1, by simp; omega⟩
          clear HMM HKS hk
          rcases ways with k1 | ⟨k1, k2⟩
          all_goals
            go_wp2_with fail
            go_ret
            exact ⟨ret_bool (by rw [HM2.out]), HNW.out⟩
      · obtain rfl : i = N := by omega
        have gi : decide ((i : Int) < (i : Int)) = false := by simp
        have gin : decide (i < i) = false := by simp
        have hm2 := hm.out
        rw [List.drop_eq_nil_of_le (by rw [HN.out]; exact Nat.le_refl _), List.map_nil, mayV_nil] at hm2
        subst hm2
        clear hm HIH
        go_wp2_with fail
        go_ret
        exact ⟨rfl, hb.out⟩

end Go.Proofs.Ytgjhaanpkfheeaa

namespace Go.Proofs.Ytgjhaanpkfheeaa
set_option linter.unusedVariables false
set_option linter.unusedSimpArgs false
open Go.RowKit

set_option maxHeartbeats 1000000 in
theorem mayv5_any (h : Nat) (l : List Vl) (oa : Option Addr) (cap b o : Nat) (w : World) (hs : VsIn w h oa cap b o l) :
    Calls Try.prog 60 #[.slice oa l.length cap] w fun e w' => e = .returned (.bool (mayV 64 (l.map Vl.c))) ∧ Below w.heap.size w w' := by
  have HM := Lib.hid (mayv_any 64 h l oa cap b o w 64 rfl (Nat.le_refl _) hs)
  clear hs
  go_enter Try.func60, Try.ntmps60
  go_wp2_with fail
  ((with_reducible refine (HM.out).mono ?_); rintro e w' ⟨rfl, hbw⟩)
  obtain ⟨m, rfl⟩ := grow_mk hbw
  clear hbw
  go_wp2_with fail
  go_ret
  exact ⟨rfl, grow_below m⟩
set_option maxHeartbeats 1000000 in
theorem mayvr_any (h : Nat) (l : List Vl) (oa : Option Addr) (cap b o : Nat) (w : World) (hs : VsIn w h oa cap b o l) :
    Calls Try.prog 90 #[.slice oa l.length cap] w fun e w' => e = .returned (.bool (mayV 64 (l.map Vl.c))) ∧ Below w.heap.size w w' := by
  have HM := Lib.hid (rmayv_any 64 h l oa cap b o w 0 rfl (Nat.le_refl _) hs)
  clear hs
  go_enter Try.func90, Try.ntmps90
  go_wp2_with fail
  ((with_reducible refine (HM.out).mono ?_); rintro e w' ⟨rfl, hbw⟩)
  obtain ⟨m, rfl⟩ := grow_mk hbw
  clear hbw
  go_wp2_with fail
  go_ret
  exact ⟨rfl, grow_below m⟩

end Go.Proofs.Ytgjhaanpkfheeaa

namespace Go.Proofs.Ytgjhaanpkfheeaa
set_option linter.unusedVariables false
set_option linter.unusedSimpArgs false
open Go.RowKit

/-- a part of values, as a slice -/
theorem VsIn.part {w : World} {h : Nat} {oa : Option Addr} {cap b o : Nat} {l : List Vl} (hs : VsIn w h oa cap b o l) {a c : Nat} (hac : a ≤ c) (hc : c ≤ l.length) :
    VsIn w h (if cap = a then oa else oa.map (·.add (a * 7))) (cap - a) b (o + a * 7) ((l.take c).drop a) := by
  have hlen : ((l.take c).drop a).length = c - a := by rw [List.length_drop, List.length_take]; omega
  have hat : ∀ i, ((l.take c).drop a)[i]? = if a + i < c then l[a + i]? else none := fun i => by rw [List.getElem?_drop, List.getElem?_take]
  have h1 := hs.small
  have h2 := hs.sl.le
  have h3 := hs.sl.max
  refine ⟨by omega, ⟨by rw [flat_length vcells_length], by omega, by omega, fun hp => ?_, fun j v hv => ?_⟩, fun i x hi => ?_⟩
  · obtain ⟨hx, hb⟩ := hs.sl.lies (by omega)
    rw [if_neg (by omega), hx]
    exact ⟨by rw [Option.map_some, Addr.add_lit], hb⟩
  · obtain ⟨i, x, k, g1, g2, rfl⟩ := flat_split vcells_length (by omega) _ _ _ hv
    rw [hat] at g1
    split at g1
    · have := hs.cell g1 g2
      rw [Nat.add_mul] at this
      rw [show o + a * 7 + (i * 7 + k) = o + (a * 7 + i * 7) + k by omega]
      exact this
    · cases g1
  · rw [hat] at hi
    split at hi
    · exact hs.each _ _ hi
    · cases hi

end Go.Proofs.Ytgjhaanpkfheeaa

namespace Go.Proofs.Ytgjhaanpkfheeaa
set_option linter.unusedVariables false
set_option linter.unusedSimpArgs false
open Go.RowKit

/-- holds, and goes on to hold while no block but those of A, of those that are, turns -/
def Safe (A : Nat → Prop) (w : World) (φ : World → Prop) : Prop := ∀ w' : World, w.heap.size ≤ w'.heap.size → (∀ b, b < w.heap.size → ¬ A b → w'.heap[b]? = w.heap[b]?) → φ w'

section
variable {A A' : Nat → Prop} {w w' : World} {φ ψ : World → Prop} {row : Option Nat}
theorem Safe.here (h : Safe A w φ) : φ w := h w (Nat.le_refl _) (fun _ _ _ => rfl)
theorem Safe.mono (h : Safe A w φ) (hφ : ∀ w', φ w' → ψ w') : Safe A w ψ := fun w' h1 h2 => hφ w' (h w' h1 h2)
theorem Safe.and (h : Safe A w φ) (h2 : Safe A w ψ) : Safe A w (fun w => φ w ∧ ψ w) := fun w' a b => ⟨h w' a b, h2 w' a b⟩
theorem Safe.anti (h : Safe A w φ) (hA : ∀ b, A' b → b < w.heap.size → A b) : Safe A' w φ := fun w' h1 h2 => h w' h1 fun b hb hn => h2 b hb fun ha => hn (hA b ha hb)
theorem Safe.grown (h : Safe A w φ) (hg : w.grownBy w' row) (hr : ∀ k, row = some k → k < w.heap.size → A k) : Safe A w' φ := fun w2 h1 h2 =>
  h w2 (Nat.le_trans hg.size h1) fun b hb hn => (h2 b (Nat.lt_of_lt_of_le hb hg.size) hn).trans (hg.block b hb fun e => hn (hr b e.symm hb))
theorem Safe.below (h : Safe A w φ) (hb : Below w.heap.size w w') : Safe A w' φ := h.grown (grownBy_of_below hb none) (fun _ e => by cases e)
theorem Safe.grow (h : Safe A w φ) (m : Ext w) : Safe A (Go.Proofs.Ytgjhaanpkfheeaa.grow w m) φ := h.below (grow_below m)
theorem Safe.set (h : Safe A w φ) {p : Addr} (hp : A p.block) (u : Value) : Safe A (w.setCell p u) φ := fun w2 h1 h2 =>
  h w2 (by simpa using h1) fun b hb hn => (h2 b (by simpa using hb) hn).trans (Below.heap_setCell w p u b fun e => hn (e ▸ hp))
theorem Safe.alloc (h : Safe A w φ) (o : Obj) : Safe A (w.alloc o) φ := h.below (below_box w o)
/-- more blocks, which the world does not have yet, may be written -/
theorem Safe.wide (h : Safe A w φ) (hA : ∀ b, A' b → A b ∨ w.heap.size ≤ b) : Safe A' w φ := h.anti fun b hb hl => (hA b hb).resolve_right (by omega)
end

/-- the heap has grown -/
def Hx (w w' : World) : Prop := w.heap.size ≤ w'.heap.size ∧ ∀ b, b < w.heap.size → w'.heap[b]? = w.heap[b]?
theorem Hx.cell {w w' : World} (h : Hx w w') {a : Addr} (ha : a.block < w.heap.size) : w'.cell? a = w.cell? a := by
  simp only [World.cell?]
  rw [h.2 _ ha]
theorem Sl.hx {w w' : World} {oa : Option Addr} {n cap b o sz : Nat} {vs : List Value} (h : Sl w oa n cap b o sz vs) (hb : Hx w w') : Sl w' oa n cap b o sz vs :=
  ⟨h.len, h.le, h.max, fun hp => ⟨(h.lies hp).1, Nat.lt_of_lt_of_le (h.lies hp).2 hb.1⟩, fun j v hv => (hb.cell (a := ⟨b, o + j, none⟩) (h.lies (h.pos hv)).2).trans (h.cell j v hv)⟩
theorem Sl.safe {A : Nat → Prop} {w : World} {oa : Option Addr} {n cap b o sz : Nat} {vs : List Value} (h : Sl w oa n cap b o sz vs) (hA : 0 < n → ¬ A b) : Safe A w fun w => Sl w oa n cap b o sz vs := fun w' h1 h2 =>
  ⟨h.len, h.le, h.max, fun hp => ⟨(h.lies hp).1, Nat.lt_of_lt_of_le (h.lies hp).2 h1⟩, fun j v hv => by
    have hp := h.pos hv
    rw [← h.cell j v hv]
    simp only [World.cell?]
    rw [h2 b (h.lies hp).2 (hA hp)]⟩

theorem VlIn.hx : ∀ (h : Nat) {v : Vl} {w w' : World}, VlIn w h v → Hx w w' → VlIn w' h v
  | 0, _, _, _, hx, _ => hx.elim
  | h + 1, .mk t oa b o cap kids, w, w', hx, hb => ⟨hx.1, hx.2.1, hx.2.2.1.hx hb, fun i x hi => VlIn.hx h (hx.2.2.2 i x hi) hb⟩
theorem VsIn.hx {w w' : World} {h : Nat} {oa : Option Addr} {cap b o : Nat} {l : List Vl} (hs : VsIn w h oa cap b o l) (hb : Hx w w') : VsIn w' h oa cap b o l :=
  ⟨hs.small, hs.sl.hx hb, fun i x hi => (hs.each i x hi).hx h hb⟩
/-- what was there does not hang on what is to come -/
theorem VsIn.safe {w : World} {h : Nat} {oa : Option Addr} {cap b o : Nat} {l : List Vl} (hs : VsIn w h oa cap b o l) : Safe (w.heap.size ≤ ·) w fun w => VsIn w h oa cap b o l := fun _ h1 h2 => hs.hx ⟨h1, fun b hb => h2 b hb (by omega)⟩
/-- values, made in memory -/
theorem VsIn.made {A : Nat → Prop} {w : World} {h : Nat} {oa : Option Addr} {cap b : Nat} {l : List Vl} (h1 : l.length * 72 ≤ 140737488355328) (h2 : Sl w oa l.length cap b 0 7 (l.flatMap vcells)) (hA : 0 < l.length → ¬ A b)
    (h3 : Safe A w fun w => ∀ x ∈ l, VlIn w h x) : Safe A w fun w => VsIn w h oa cap b 0 l := fun w' g1 g2 =>
  ⟨h1, (h2.safe hA) w' g1 g2, fun _ x hi => h3 w' g1 g2 x (List.mem_of_getElem? hi)⟩
theorem VlIn.made {A : Nat → Prop} {w : World} {h : Nat} {t : Tk} {oa : Option Addr} {cap b o : Nat} {l : List Vl} (ht : Tk64 t) (hs : Safe A w fun w => VsIn w h oa cap b o l) : Safe A w fun w => VlIn w (h + 1) (.mk t oa b o cap l) := hs.mono fun _ h => ⟨ht, h.small, h.sl, h.each⟩

/-- an element, built in a block of its own, behind a row: whatever else the world is -/
theorem wpList_add {ops : Array Oper} {rest : List Oper} {o : Oper} {a : Act} {Q : Exit → Act → World → Prop} {base : Nat} {w : World} {t e : TypeId} {z : Value} {size bytes : Nat} (E : El t e z size bytes)
    (hgd : o.guard = none) (s x : Operand) (ho : o.op = .call { callee := .builtin .append, args := #[s, x], argTypes := #[t, t] }) {v : Value} {n : Nat} {xs : List Value} (hs : a.eval s = v)
    (hown : w.ownsRow base e size v n xs) (hbase : base ≤ w.heap.size) {B : Nat} {cs : Array Value} {tc : TypeId} (hB : Blk w B tc cs) (c : Nat) (hx : a.eval x = .slice (some ⟨B, 0, none⟩) 1 c) (hl : cs.toList.length = size) (h1 : ∀ u ∈ cs.toList, u.oneCell' = true)
    (hbytes : (n + 1) * bytes ≤ 140737488355328) (h63 : n + 1 ≤ 140737488355328)
    (h : ∀ g cap w', w'.ownsRow base e size (.slice (some ⟨g, 0, none⟩) (n + 1) cap) (n + 1) (xs ++ cs.toList) → w.grownBy w' v.ownBlock → (v.ownBlock = some g ∨ g = w.heap.size) → (∀ k, v.ownBlock = some k → base ≤ k ∧ k < w.heap.size) → wpList Try.prog ops Q rest (a.put o.dst (.slice (some ⟨g, 0, none⟩) (n + 1) cap)) w') :
    wpList Try.prog ops Q (o :: rest) a w := by
  obtain ⟨i0, hi0, hz0, hz1, hz2⟩ := info_parts E.info
  refine wpList_append_lies _ hgd s x t ho base e i0 z size bytes E.under hi0 hz0 hz1 hz2 E.zs E.pos v n xs hs hown ⟨B, 0, none⟩ 1 c cs.toList hx (by rw [hl, Nat.one_mul])
    (World.news_of_block (cs := cs) (t := tc) (fr := (0, 0)) hB) h1 (by omega) (Nat.le_trans h63 (by decide)) hbytes hbase _ rfl fun g cap w' ho2 hg hat _ => ?_
  exact h g cap w' ho2 hg hat (fun k hk => hown.lt k hk)

def Loose.fw (i : Nat) (d : Tmp) (φ : Value → World → Prop) (hs : ∀ v w1 w2, φ v w1 → Below w1.heap.size w1 w2 → φ v w2) : Loose := ⟨i, d, none, φ, fun _ => none, hs⟩
def Loose.rw (i : Nat) (d : Tmp) (t : TypeId) (k k0 : Nat) (φ : Array Value → World → Prop) (hs : ∀ v w1 w2, φ v w1 → Below w1.heap.size w1 w2 → φ v w2) : Loose :=
  ⟨i, d, none, fun v w => ∃ b cs, v = .slice (some ⟨b, 0, none⟩) k k ∧ k0 ≤ b ∧ φ cs w ∧ Blk w b t cs, ownS, fun _ _ _ ⟨b, cs, h1, h0, hc, h2⟩ hb => ⟨b, cs, h1, h0, hs _ _ _ hc hb, h2.below hb h2.lt⟩⟩
section
variable (V : Nat → Value) (w : World) (i : Nat) (d : Tmp) (φ : Value → World → Prop) (hs : ∀ v w1 w2, φ v w1 → Below w1.heap.size w1 w2 → φ v w2) (cl : List Loose)
theorem Loose.fw_i : (Loose.fw i d φ hs).i = i := rfl
theorem Loose.fw_hush (o : Oper) : (Loose.fw i d φ hs).hush o = { o with dst := none, op := .move (.const undef), guard := none } := rfl
theorem fill_fw (a : Act) : fill V (Loose.fw i d φ hs :: cl) a = fill V cl (a.put (some d) (V i)) := rfl
theorem laws_fw : lawsL V w (Loose.fw i d φ hs :: cl) = (φ (V i) w ∧ lawsL V w cl) := rfl
theorem dist_fw : distL V (Loose.fw i d φ hs :: cl) = distL V cl := by
  have h : ∀ cl : List Loose, distL1 V (Loose.fw i d φ hs) cl := fun cl => distL1_of fun L' _ k k' h => by cases h
  simp [distL, h]
theorem dist1_fw (L : Loose) : distL1 V L (Loose.fw i d φ hs :: cl) = distL1 V L cl := by
  have h : ∀ k k', L.own (V L.i) = some k → (Loose.fw i d φ hs).own (V i) = some k' → k ≠ k' := fun k k' _ h => by cases h
  exact propext ⟨fun h2 => h2.2, fun h2 => ⟨h, h2⟩⟩
end
section
variable (V : Nat → Value) (w : World) (i : Nat) (d : Tmp) (t : TypeId) (k k0 : Nat) (φ : Array Value → World → Prop) (hs : ∀ v w1 w2, φ v w1 → Below w1.heap.size w1 w2 → φ v w2) (cl : List Loose)
theorem Loose.rw_i : (Loose.rw i d t k k0 φ hs).i = i := rfl
theorem Loose.rw_hush (o : Oper) : (Loose.rw i d t k k0 φ hs).hush o = { o with dst := none, op := .move (.const undef), guard := none } := rfl
theorem fill_rw (a : Act) : fill V (Loose.rw i d t k k0 φ hs :: cl) a = fill V cl (a.put (some d) (V i)) := rfl
theorem laws_rw : lawsL V w (Loose.rw i d t k k0 φ hs :: cl) = ((∃ b cs, V i = .slice (some ⟨b, 0, none⟩) k k ∧ k0 ≤ b ∧ φ cs w ∧ Blk w b t cs) ∧ lawsL V w cl) := rfl
theorem dist_rw : distL V (Loose.rw i d t k k0 φ hs :: cl) = (distL1 V (Loose.rw i d t k k0 φ hs) cl ∧ distL V cl) := rfl
end
theorem post_fw {i : Nat} {d : Tmp} {φ : Value → World → Prop} {hs : ∀ v w1 w2, φ v w1 → Below w1.heap.size w1 w2 → φ v w2} {v : Value} {F : Act} {w w' : World} {a : Act} (h : a = F.put (some d) v) (hv : φ v w') (hb : Below w.heap.size w w') : PostL (Loose.fw i d φ hs) F w .normal a w' :=
  ⟨rfl, _, h, hb, hv, fun k hk => (by cases hk), fun c2 hc => (by cases hc)⟩
theorem post_rw {k0 : Nat} {i : Nat} {d : Tmp} {t : TypeId} {k : Nat} {φ : Array Value → World → Prop} {hs : ∀ v w1 w2, φ v w1 → Below w1.heap.size w1 w2 → φ v w2} {cs : Array Value} {F : Act} {w : World} {a : Act} (h : a = F.put (some d) (.slice (some ⟨w.heap.size, 0, none⟩) k k)) (hk : k0 ≤ w.heap.size) (hc : φ cs w) : PostL (Loose.rw i d t k k0 φ hs) F w .normal a (w.alloc (.cells cs t)) :=
  ⟨rfl, _, h, below_box _ _, ⟨_, _, rfl, hk, hs _ _ _ hc (below_box _ _), Blk.new _ _ _⟩, fun k2 hk => by
    simp only [Loose.rw, ownS, Option.some.injEq] at hk
    subst hk
    simp, fun c hc => by cases hc⟩

end Go.Proofs.Ytgjhaanpkfheeaa

namespace Go.Proofs.Ytgjhaanpkfheeaa
set_option linter.unusedVariables false
set_option linter.unusedSimpArgs false
open Go.RowKit

theorem elVal : El 61 74 (.agg #[.int .i64 0, .string ⟨#[]⟩, .int .i64 0, .int .i64 0, .bool false, .bool false, .slice none 0 0]) 7 72 := ⟨Try.underlying61, by kernel_rfl, rfl, by decide⟩

/-- these values are the slice v; they lie clear of A -/
def isVs (A : Nat → Prop) (h : Nat) (X : List Vt) (v : Value) (w : World) : Prop := ∃ (oa : Option Addr) (cap b o : Nat) (l : List Vl), v = .slice oa l.length cap ∧ l.map Vl.c = X ∧ Safe A w fun w => VsIn w h oa cap b o l
theorem isVs.anti {A A' : Nat → Prop} {h : Nat} {X : List Vt} {v : Value} {w : World} (hv : isVs A h X v w) (hA : ∀ b, A' b → A b ∨ w.heap.size ≤ b) : isVs A' h X v w := by
  obtain ⟨oa, cap, b, o, l, hv, hc, hs⟩ := hv
  exact ⟨oa, cap, b, o, l, hv, hc, hs.wide hA⟩

end Go.Proofs.Ytgjhaanpkfheeaa

namespace Go.Proofs.Ytgjhaanpkfheeaa
set_option linter.unusedVariables false
set_option linter.unusedSimpArgs false
open Go.RowKit

/-- so many cells are written, one behind the other -/
def puts (w : World) (g : Nat) : Nat → List Value → World
  | _, [] => w
  | o, v :: r => puts (w.setCell ⟨g, o, none⟩ v) g (o + 1) r
theorem grownBy_refl (w : World) (row : Option Nat) : w.grownBy w row := ⟨rfl, rfl, rfl, Nat.le_refl _, fun _ _ _ => rfl⟩
theorem grownBy_puts : ∀ (cs : List Value) (w : World) (g o : Nat), w.grownBy (puts w g o cs) (some g)
  | [], w, g, _ => grownBy_refl w _
  | v :: r, w, g, o => grownBy_trans (grownBy_set w ⟨g, o, none⟩ v) (grownBy_puts r _ g (o + 1))
theorem puts_size : ∀ (cs : List Value) (w : World) (g o : Nat), (puts w g o cs).heap.size = w.heap.size
  | [], _, _, _ => rfl
  | v :: r, w, g, o => (puts_size r _ g (o + 1)).trans (by simp)

/-- a cell of a row of the call's own is written -/
theorem owns_setAt {w : World} {base : Nat} {e : TypeId} {size n cap g : Nat} {xs : List Value} (h : w.ownsRow base e size (.slice (some ⟨g, 0, none⟩) n cap) n xs) {i : Nat} (hi : i < n * size) (u : Value) :
    (w.setCell ⟨g, i, none⟩ u).ownsRow base e size (.slice (some ⟨g, 0, none⟩) n cap) n (xs.set i u) := by
  rcases h.2 with ⟨h0, _⟩ | ⟨g', cap', cur, hv, hg, hc, h1, h2, h3, h4⟩
  · cases h0
  · obtain ⟨rfl, rfl⟩ : g = g' ∧ cap = cap' := by
      injection hv with e1 _ e2
      injection e1 with e1
      injection e1 with e1
      exact ⟨e1, e2⟩
    have hisz : i < cur.size := by
      rw [h3]
      exact Nat.lt_of_lt_of_le hi (Nat.mul_le_mul_right size h1)
    refine ⟨by rw [List.length_set]; exact h.1, Or.inr ⟨g, cap, cur.setIfInBounds i u, rfl, hg, ?_, h1, h2, by simpa using h3, ?_⟩⟩
    · have hb : Blk w g e cur := hc
      exact hb.put i u
    · rw [Array.toList_setIfInBounds, List.take_set, h4]
theorem owns_puts {base : Nat} {e : TypeId} {size n cap g : Nat} : ∀ (cs : List Value) (o : Nat) (w : World) (xs ys : List Value), w.ownsRow base e size (.slice (some ⟨g, 0, none⟩) n cap) n (xs ++ ys) → xs.length = o → ys.length = cs.length → o + cs.length ≤ n * size →
    (puts w g o cs).ownsRow base e size (.slice (some ⟨g, 0, none⟩) n cap) n (xs ++ cs)
  | [], o, w, xs, ys, h, _, hl, _ => by
    have : ys = [] := List.eq_nil_of_length_eq_zero hl
    subst this
    exact h
  | v :: r, o, w, xs, [], h, _, hl, _ => by cases hl
  | v :: r, o, w, xs, y :: ys, h, hx, hl, hn => by
    have h1 := owns_setAt h (i := o) (by simp at hn; omega) v
    have e : (xs ++ y :: ys).set o v = (xs ++ [v]) ++ ys := by
      rw [List.set_append, if_neg (by omega), hx, Nat.sub_self, List.set_cons_zero, List.append_assoc]
      rfl
    rw [e] at h1
    have h2 := owns_puts r (o + 1) _ (xs ++ [v]) ys h1 (by simp [hx]) (by simpa using hl) (by simp at hn ⊢; omega)
    rw [List.append_assoc] at h2
    exact h2
theorem owns_frozen {w : World} {base : Nat} {e : TypeId} {size n cap g : Nat} {xs : List Value} (h : w.ownsRow base e size (.slice (some ⟨g, 0, none⟩) n cap) n xs) (i : Nat) : w.frozen? ⟨g, i, none⟩ = false := by
  rcases h.2 with ⟨h0, _⟩ | ⟨g', cap', cur, hv, hg, hc, _⟩
  · cases h0
  · have : g = g' := by
      injection hv with e1 _ e2
      injection e1 with e1
      injection e1 with e1
    subst this
    have hb : Blk w g e cur := hc
    exact hb.frozen i
theorem owns_cell {w : World} {base : Nat} {e : TypeId} {size n cap g : Nat} {xs : List Value} (h : w.ownsRow base e size (.slice (some ⟨g, 0, none⟩) n cap) n xs) {i : Nat} {u : Value} (hu : xs[i]? = some u) : w.cell? ⟨g, i, none⟩ = some u := by
  rcases h.2 with ⟨h0, _⟩ | ⟨g', cap', cur, hv, hg, hc, h1, h2, h3, h4⟩
  · cases h0
  · have : g = g' := by
      injection hv with e1 _ e2
      injection e1 with e1
      injection e1 with e1
    subst this
    have hb : Blk w g e cur := hc
    rw [hb.cell i]
    have hj := (List.getElem?_eq_some_iff.1 hu).1
    rw [← h4, List.getElem?_take] at hu
    split at hu
    · simpa using hu
    · cases hu
theorem owns_lt {w : World} {base : Nat} {e : TypeId} {size n cap g : Nat} {xs : List Value} (h : w.ownsRow base e size (.slice (some ⟨g, 0, none⟩) n cap) n xs) : base ≤ g ∧ g < w.heap.size := h.lt g rfl
theorem owns_cap {w : World} {base : Nat} {e : TypeId} {size n cap g : Nat} {xs : List Value} (h : w.ownsRow base e size (.slice (some ⟨g, 0, none⟩) n cap) n xs) : n ≤ cap ∧ cap ≤ maxLen := by
  rcases h.2 with ⟨h0, _⟩ | ⟨g', cap', cur, hv, hg, hc, h1, h2, h3, h4⟩
  · cases h0
  · injection hv with _ _ e2
    subst e2
    exact ⟨h1, h2⟩
/-- the first of a row's elements are a row -/
theorem owns_take {w : World} {base : Nat} {e : TypeId} {size n cap g : Nat} {xs : List Value} (h : w.ownsRow base e size (.slice (some ⟨g, 0, none⟩) n cap) n xs) {k : Nat} (hk : k ≤ n) : w.ownsRow base e size (.slice (some ⟨g, 0, none⟩) k cap) k (xs.take (k * size)) := by
  have hks := Nat.mul_le_mul_right size hk
  rcases h.2 with ⟨h0, _⟩ | ⟨g', cap', cur, hv, hg, hc, h1, h2, h3, h4⟩
  · cases h0
  · obtain ⟨rfl, rfl⟩ : g = g' ∧ cap = cap' := by
      injection hv with e1 _ e2
      injection e1 with e1
      injection e1 with e1
      exact ⟨e1, e2⟩
    refine ⟨by rw [List.length_take, h.1]; omega, Or.inr ⟨g, cap, cur, rfl, hg, hc, by omega, h2, h3, ?_⟩⟩
    rw [← h4, List.take_take, Nat.min_eq_left hks]
/-- rows of elements of two types are two rows -/
theorem owns_apart {w : World} {base base' : Nat} {e e' : TypeId} {size size' : Nat} {v v' : Value} {n n' : Nat} {xs xs' : List Value} (h : w.ownsRow base e size v n xs) (h' : w.ownsRow base' e' size' v' n' xs') (he : e ≠ e') {g : Nat} (hg : v.ownBlock = some g) : v'.ownBlock ≠ some g := by
  intro hg'
  rcases h.2 with ⟨h0, _⟩ | ⟨g1, cap1, cur1, hv, _, hc, _⟩
  · subst h0; cases hg
  · rcases h'.2 with ⟨h0, _⟩ | ⟨g2, cap2, cur2, hv', _, hc', _⟩
    · subst h0; cases hg'
    · subst hv hv'
      obtain rfl := Option.some.inj hg
      obtain rfl := Option.some.inj hg'
      simp only at hc hc'
      rw [hc] at hc'
      injection hc' with hc'
      injection hc' with _ hc' _
      exact he hc'
/-- a block that is known whole is no row of elements of another type -/
theorem blk_apart {w : World} {base : Nat} {e t : TypeId} {size : Nat} {v : Value} {n : Nat} {xs : List Value} {B : Nat} {cs : Array Value} (hB : Blk w B t cs) (h : w.ownsRow base e size v n xs) (he : e ≠ t) : v.ownBlock ≠ some B := by
  intro hg'
  rcases h.2 with ⟨h0, _⟩ | ⟨g2, cap2, cur2, hv', _, hc', _⟩
  · subst h0; cases hg'
  · subst hv'
    obtain rfl := Option.some.inj hg'
    unfold Blk at hB
    rw [hB] at hc'
    injection hc' with hc'
    injection hc' with _ hc' _
    exact he hc'.symm

/-- what is open: its token, the slice of what stands in it, that -/
structure Fm where
  t : Tk
  v : Value
  kids : List Vl
section
variable {B K : Nat} {w w' : World} {vs : Value} {S R : List Fm}
end

end Go.Proofs.Ytgjhaanpkfheeaa

namespace Go.Proofs.Ytgjhaanpkfheeaa
set_option linter.unusedVariables false
set_option linter.unusedSimpArgs false
open Go.RowKit

/-- an element behind a row, at a step of a region that draws its order -/
theorem step_add {ops : Array Oper} {o : Oper} {a : Act} {K : Act → World → Prop} {Q : Exit → Act → World → Prop} {E0 : Prop} {base : Nat} {w : World} {t e : TypeId} {z : Value} {size bytes : Nat} (E : El t e z size bytes)
    (hgd : o.guard = none) (s x : Operand) (ho : o.op = .call { callee := .builtin .append, args := #[s, x], argTypes := #[t, t] }) {v : Value} {n : Nat} {xs : List Value} (hs : a.eval s = v)
    (hown : w.ownsRow base e size v n xs) (hbase : base ≤ w.heap.size) {B : Nat} {cs : Array Value} {tc : TypeId} (hB : Blk w B tc cs) (c : Nat) (hx : a.eval x = .slice (some ⟨B, 0, none⟩) 1 c) (hl : cs.toList.length = size) (h1 : ∀ u ∈ cs.toList, u.oneCell' = true)
    (hbytes : (n + 1) * bytes ≤ 140737488355328) (h63 : n + 1 ≤ 140737488355328)
    (h : ∀ g cap w', w'.ownsRow base e size (.slice (some ⟨g, 0, none⟩) (n + 1) cap) (n + 1) (xs ++ cs.toList) → w.grownBy w' v.ownBlock → (v.ownBlock = some g ∨ w.heap.size ≤ g) → K (a.put o.dst (.slice (some ⟨g, 0, none⟩) (n + 1) cap)) w') :
    if Region.wanted o (yielded ops a.tmps) = true then Oper.wp Try.prog o a w K Q else E0 := by
  obtain ⟨i0, hi0, hz0, hz1, hz2⟩ := info_parts E.info
  refine step_append_lies _ hgd s x t ho base e i0 z size bytes E.under hi0 hz0 hz1 hz2 E.zs E.pos v n xs hs hown ⟨B, 0, none⟩ 1 c cs.toList hx (by rw [hl, Nat.one_mul])
    (World.news_of_block (cs := cs) (t := tc) (fr := (0, 0)) hB) h1 (by omega) (Nat.le_trans h63 (by decide)) hbytes hbase _ rfl fun g cap w' ho2 hg hat _ => ?_
  exact h g cap w' ho2 hg (hat.imp id fun e => by omega)

def zero7 : Array Value := #[.int .i64 0, .string ⟨#[]⟩, .int .i64 0, .int .i64 0, .bool false, .bool false, .slice none 0 0]

theorem owns_belowW {w w' : World} {base : Nat} {e : TypeId} {size : Nat} {v : Value} {n : Nat} {xs : List Value} (h : w.ownsRow base e size v n xs) (hb : Below w.heap.size w w') : w'.ownsRow base e size v n xs :=
  h.kept (grownBy_of_below hb none) (by cases v.ownBlock <;> simp)

end Go.Proofs.Ytgjhaanpkfheeaa

namespace Go.Proofs.Ytgjhaanpkfheeaa
set_option linter.unusedVariables false
set_option linter.unusedSimpArgs false
open Go.RowKit

theorem isVs.grown {A : Nat → Prop} {h : Nat} {X : List Vt} {v : Value} {w w' : World} {row : Option Nat} (hv : isVs A h X v w) (hg : w.grownBy w' row) (hr : ∀ k, row = some k → k < w.heap.size → A k) : isVs A h X v w' := by
  obtain ⟨oa, cap, b, o, l, hv, hc, hs⟩ := hv
  exact ⟨oa, cap, b, o, l, hv, hc, hs.grown hg hr⟩
theorem isVs.slice {A : Nat → Prop} {h : Nat} {X : List Vt} {v : Value} {w : World} (hv : isVs A h X v w) : ∃ oa n cap, v = .slice oa n cap := by
  obtain ⟨oa, cap, b, o, l, hv, _⟩ := hv
  exact ⟨oa, _, cap, hv⟩

end Go.Proofs.Ytgjhaanpkfheeaa

namespace Go.Proofs.Ytgjhaanpkfheeaa
set_option linter.unusedVariables false
set_option linter.unusedSimpArgs false
open Go.RowKit

mutual
def Ex.c : Ex → Et
  | .mk k n d u _ _ _ _ kids => .mk k n d u (Ex.cs kids)
def Ex.cs : List Ex → List Et
  | [] => []
  | x :: r => x.c :: Ex.cs r
end
theorem Ex.cs_map : ∀ l : List Ex, Ex.cs l = l.map Ex.c
  | [] => rfl
  | x :: r => by rw [Ex.cs, Ex.cs_map r]; rfl
theorem Ex.c_mk (k n d u : Int) (oa : Option Addr) (b o cap : Nat) (kids : List Ex) : (Ex.mk k n d u oa b o cap kids).c = .mk k n d u (kids.map Ex.c) := by rw [Ex.c, Ex.cs_map]
theorem xcells_length (x : Ex) : (xcells x).length = 5 := by cases x; rfl

theorem ExIn.of_sl {w : World} {h : Nat} {k n d u : Int} {oa : Option Addr} {b cap : Nat} {l : List Ex} (hk : I64 k) (hn : Is64 (n, d)) (hu : I64 u) (hl : l.length * 56 ≤ 140737488355328) (hs : Sl w oa l.length cap b 0 5 (l.flatMap xcells)) (he : ∀ x ∈ l, ExIn w h x) : ExIn w (h + 1) (.mk k n d u oa b 0 cap l) :=
  ⟨hk, hn, hu, hs.le, hs.max, hl, hs.lies, fun i x hi => ⟨fun j v hv => by
    have := hs.cell _ _ (flat_at xcells_length l i x j v hi hv)
    rw [show 0 + i * 5 + j = 0 + (i * 5 + j) by omega]
    exact this, he x (List.mem_of_getElem? hi)⟩⟩
theorem ExIn.made {A : Nat → Prop} {w : World} {h : Nat} {k n d u : Int} {oa : Option Addr} {b cap : Nat} {l : List Ex} (hk : I64 k) (hn : Is64 (n, d)) (hu : I64 u) (hl : l.length * 56 ≤ 140737488355328) (hs : Sl w oa l.length cap b 0 5 (l.flatMap xcells)) (hA : 0 < l.length → ¬ A b)
    (he : Safe A w fun w => ∀ x ∈ l, ExIn w h x) : Safe A w fun w => ExIn w (h + 1) (.mk k n d u oa b 0 cap l) := fun w' g1 g2 => .of_sl hk hn hu hl ((hs.safe hA) w' g1 g2) (he w' g1 g2)
theorem ExIn.leaf {A : Nat → Prop} {w : World} {k n d u : Int} (hk : I64 k) (hn : Is64 (n, d)) (hu : I64 u) : Safe A w fun w => ExIn w 1 (.mk k n d u none 0 0 0 []) := fun w' _ _ =>
  .of_sl (h := 0) hk hn hu (by simp) ⟨rfl, Nat.le_refl _, Nat.zero_le _, fun h => absurd h (by simp), fun j v h => by simp at h⟩ (fun x hx => by cases hx)

/-- the expression E is the value v; it lies clear of A -/
def isEx (A : Nat → Prop) (E : Et) (v : Value) (w : World) : Prop := ∃ (x : Ex) (h : Nat), v = xv x ∧ x.c = E ∧ Safe A w fun w => ExIn w h x
/-- five cells of an expression -/
def isE5 (v : Value) : Prop := ∃ (k n d u : Int) (oa : Option Addr) (L cap : Nat), v = .agg #[.int .i64 k, .int .i64 n, .int .i64 d, .int .i64 u, .slice oa L cap]
theorem isE5_xv (x : Ex) : isE5 (xv x) := by obtain ⟨k, n, d, u, oa, b, o, cap, kids⟩ := x; exact ⟨k, n, d, u, oa, kids.length, cap, rfl⟩
theorem isEx.e5 {A : Nat → Prop} {E : Et} {v : Value} {w : World} (h : isEx A E v w) : isE5 v := by obtain ⟨x, _, rfl, _⟩ := h; exact isE5_xv x
theorem isEx.anti {A A' : Nat → Prop} {E : Et} {v : Value} {w : World} (h : isEx A E v w) (hA : ∀ b, A' b → A b ∨ w.heap.size ≤ b) : isEx A' E v w := by
  obtain ⟨x, hh, hv, hc, hs⟩ := h
  exact ⟨x, hh, hv, hc, hs.wide hA⟩
theorem isEx.grown {A : Nat → Prop} {E : Et} {v : Value} {w w' : World} {row : Option Nat} (h : isEx A E v w) (hg : w.grownBy w' row) (hr : ∀ k, row = some k → k < w.heap.size → A k) : isEx A E v w' := by
  obtain ⟨x, hh, hv, hc, hs⟩ := h
  exact ⟨x, hh, hv, hc, hs.grown hg hr⟩
theorem isEx.below {A : Nat → Prop} {E : Et} {v : Value} {w w' : World} (h : isEx A E v w) (hb : Below w.heap.size w w') : isEx A E v w' := h.grown (grownBy_of_below hb none) (fun _ e => by cases e)
theorem Blk.put5 {w : World} {g : Nat} {t : TypeId} {a0 a1 a2 a3 a4 : Value} (h : Blk w g t #[a0, a1, a2, a3, a4]) (x0 x1 x2 x3 x4 : Value) :
    Blk (((((w.setCell ⟨g, 0, none⟩ x0).setCell ⟨g, 1, none⟩ x1).setCell ⟨g, 2, none⟩ x2).setCell ⟨g, 3, none⟩ x3).setCell ⟨g, 4, none⟩ x4) g t #[x0, x1, x2, x3, x4] := ((((h.put 0 x0).put 1 x1).put 2 x2).put 3 x3).put 4 x4
theorem below_put5 {B : Nat} {w0 w : World} (h : Below B w0 w) {g : Nat} (hg : B ≤ g) (x0 x1 x2 x3 x4 : Value) :
    Below B w0 (((((w.setCell ⟨g, 0, none⟩ x0).setCell ⟨g, 1, none⟩ x1).setCell ⟨g, 2, none⟩ x2).setCell ⟨g, 3, none⟩ x3).setCell ⟨g, 4, none⟩ x4) := ((((h.setCell hg x0).setCell hg x1).setCell hg x2).setCell hg x3).setCell hg x4
theorem sizeExpr : (Try.prog.info? 45).map (·.size) = some 5 := by kernel_rfl
theorem ret_ex {fn : Func} {p : Tmp} {tmps : Array Value} {w : World} {g : Nat} {t : TypeId} {cs : Array Value} (hr : fn.results = #[.cell p 45]) (hp : tmps.getD p undef = .pointer (some ⟨g, 0, none⟩)) (h : Blk w g t cs) (hs : cs.size = 5) : (results fn tmps).run Try.prog w = .ok (.agg cs) w :=
  results_cell_row hr tmps w g t cs (0, 0) _ hp h Try.underlying45 rfl (by rw [hs]; exact sizeExpr)
theorem i64_small (k : Int) (h : 0 ≤ k ∧ k ≤ 8) : I64 k := by unfold I64; omega

end Go.Proofs.Ytgjhaanpkfheeaa

namespace Go.Proofs.Ytgjhaanpkfheeaa
set_option linter.unusedVariables false
set_option linter.unusedSimpArgs false
open Go.RowKit

/-- a leaf of which only kind, truth and name are told -/
def Lf.bare (l : Lf) : Prop := l.op = 0 ∧ l.ex = zeroX ∧ l.word = ⟨#[]⟩ ∧ l.value = ⟨#[]⟩ ∧ l.any = false
def Lf.q (l : Lf) : Int × Int × List UInt8 := (l.kind, l.truth, l.name.data.toList)
def bareL (L : Int × Int × List UInt8) : Lf := ⟨L.1, L.2.1, ⟨L.2.2.toArray⟩, 0, zeroX, ⟨#[]⟩, ⟨#[]⟩, false⟩
mutual
def Cd.q : Cd → Qt
  | .mk k _ _ _ _ kids leaf => .mk k (Cd.qs kids) leaf.q
def Cd.qs : List Cd → List Qt
  | [] => []
  | x :: r => x.q :: Cd.qs r
end
mutual
def Cd.bare : Cd → Prop
  | .mk _ _ _ _ _ kids leaf => leaf.bare ∧ Cd.bares kids
def Cd.bares : List Cd → Prop
  | [] => True
  | x :: r => x.bare ∧ Cd.bares r
end
theorem Cd.qs_map : ∀ l : List Cd, Cd.qs l = l.map Cd.q
  | [] => rfl
  | x :: r => by rw [Cd.qs, Cd.qs_map r]; rfl
theorem Cd.bares_all : ∀ l : List Cd, Cd.bares l ↔ ∀ x ∈ l, x.bare
  | [] => by simp [Cd.bares]
  | x :: r => by rw [Cd.bares, Cd.bares_all r]; simp
theorem Cd.q_mk (k : Int) (oa : Option Addr) (b o cap : Nat) (kids : List Cd) (leaf : Lf) : (Cd.mk k oa b o cap kids leaf).q = .mk k (kids.map Cd.q) leaf.q := by rw [Cd.q, Cd.qs_map]
theorem Cd.bare_mk (k : Int) (oa : Option Addr) (b o cap : Nat) (kids : List Cd) (leaf : Lf) : (Cd.mk k oa b o cap kids leaf).bare ↔ leaf.bare ∧ ∀ x ∈ kids, x.bare := by rw [Cd.bare, Cd.bares_all]
theorem Lf.of_bare {l : Lf} (h : l.bare) : l = bareL l.q := by
  obtain ⟨k, t, n, o, e, w, v, a⟩ := l
  obtain ⟨rfl, rfl, rfl, rfl, rfl⟩ := h
  rfl
theorem ccells_length (x : Cd) : (ccells x).length = 14 := by
  obtain ⟨k, oa, b, o, cap, kids, ⟨k2, t, n, op, ⟨a0, a1, a2, a3, a4, a5, a6, a7, a8⟩, w, v, a⟩⟩ := x
  rfl
/-- the cells of a bare condition -/
def qcells (k : Int) (sl : Value) (L : Int × Int × List UInt8) : List Value := [.int .i64 k, sl, .int .i64 L.1, .int .i64 L.2.1, .string ⟨L.2.2.toArray⟩, .int .i64 0, .int .i64 0, .int .i64 0, .int .i64 0, .int .i64 0, .slice none 0 0, .string ⟨#[]⟩, .string ⟨#[]⟩, .bool false]
theorem ccells_bare (k : Int) (oa : Option Addr) (b o cap : Nat) (kids : List Cd) (L : Int × Int × List UInt8) : ccells (.mk k oa b o cap kids (bareL L)) = qcells k (.slice oa kids.length cap) L := rfl

theorem LfIn.bare {w : World} {L : Int × Int × List UInt8} (h1 : I64 L.1) (h2 : I64 L.2.1) : LfIn w 1 (bareL L) :=
  ⟨h1, h2, i64_small 0 (by decide), (ExIn.leaf (A := fun _ => False) (k := 0) (n := 0) (d := 0) (u := 0) (i64_small _ (by decide)) (by unfold Is64; decide) (i64_small _ (by decide))).here⟩
theorem LfIn.up {w : World} {h h' : Nat} {l : Lf} (hh : h ≤ h') (hx : LfIn w h l) : LfIn w h' l := ⟨hx.1, hx.2.1, hx.2.2.1, ExIn.mono h h' hh hx.2.2.2⟩
theorem cdin_up : ∀ (h h' : Nat) {w : World} {e : Cd}, h ≤ h' → CdIn w h e → CdIn w h' e
  | 0, _, _, _, _, hx => hx.elim
  | h + 1, 0, _, _, hh, _ => absurd hh (by omega)
  | h + 1, h' + 1, w, .mk k oa b o cap l lf, hh, hx => by
    obtain ⟨h1, h2, h4, h5, h6, h7, h8⟩ := hx
    exact ⟨h1, h2.up (by omega), h4, h5, h6, h7, fun i x hi => ⟨(h8 i x hi).1, cdin_up h h' (by omega) (h8 i x hi).2⟩⟩
theorem CdIn.made {A : Nat → Prop} {w : World} {h : Nat} {k : Int} {L : Int × Int × List UInt8} {oa : Option Addr} {b cap : Nat} {l : List Cd} (hk : I64 k) (h1 : I64 L.1) (h2 : I64 L.2.1) (hl : l.length * 8 ≤ 140737488355328) (hs : Sl w oa l.length cap b 0 14 (l.flatMap ccells)) (hA : 0 < l.length → ¬ A b)
    (he : Safe A w fun w => ∀ x ∈ l, CdIn w h x) : Safe A w fun w => CdIn w (h + 2) (.mk k oa b 0 cap l (bareL L)) := fun w' g1 g2 => by
  have hs' := (hs.safe hA) w' g1 g2
  have he' := he w' g1 g2
  refine ⟨hk, (LfIn.bare h1 h2).up (by omega), hs'.le, hs'.max, hl, hs'.lies, fun i x hi => ⟨fun j v hv => ?_, cdin_up h _ (by omega) (he' x (List.mem_of_getElem? hi))⟩⟩
  have := hs'.cell _ _ (flat_at ccells_length l i x j v hi hv)
  rw [show 0 + i * 14 + j = 0 + (i * 14 + j) by omega]
  exact this

/-- the condition Q is the value v; it lies clear of A -/
def isQd (A : Nat → Prop) (Q : Qt) (v : Value) (w : World) : Prop := ∃ (x : Cd) (h : Nat), v = cv x ∧ x.q = Q ∧ x.bare ∧ Safe A w fun w => CdIn w h x
theorem isQd.anti {A A' : Nat → Prop} {Q : Qt} {v : Value} {w : World} (h : isQd A Q v w) (hA : ∀ b, A' b → A b ∨ w.heap.size ≤ b) : isQd A' Q v w := by
  obtain ⟨x, hh, hv, hc, hp, hs⟩ := h
  exact ⟨x, hh, hv, hc, hp, hs.wide hA⟩
theorem isQd.grown {A : Nat → Prop} {Q : Qt} {v : Value} {w w' : World} {row : Option Nat} (h : isQd A Q v w) (hg : w.grownBy w' row) (hr : ∀ k, row = some k → k < w.heap.size → A k) : isQd A Q v w' := by
  obtain ⟨x, hh, hv, hc, hp, hs⟩ := h
  exact ⟨x, hh, hv, hc, hp, hs.grown hg hr⟩
theorem isQd.below {A : Nat → Prop} {Q : Qt} {v : Value} {w w' : World} (h : isQd A Q v w) (hb : Below w.heap.size w w') : isQd A Q v w' := h.grown (grownBy_of_below hb none) (fun _ e => by cases e)
/-- the cells of such a value -/
theorem isQd.cells {A : Nat → Prop} {Q : Qt} {v : Value} {w : World} (h : isQd A Q v w) : ∃ (k : Int) (oa : Option Addr) (n cap : Nat) (L : Int × Int × List UInt8), v = .agg (qcells k (.slice oa n cap) L).toArray := by
  obtain ⟨⟨k, oa, b, o, cap, kids, lf⟩, hh, rfl, hc, hp, hs⟩ := h
  rw [Cd.bare_mk] at hp
  refine ⟨k, oa, kids.length, cap, lf.q, ?_⟩
  unfold cv
  rw [Lf.of_bare hp.1]
  rfl
theorem leaf_qd (A : Nat → Prop) (w : World) {L : Int × Int × List UInt8} (h1 : I64 L.1) (h2 : I64 L.2.1) : isQd A (leafQ L) (.agg (qcells 4 (.slice none 0 0) L).toArray) w :=
  ⟨.mk 4 none 0 0 0 [] (bareL L), 2, rfl, by rw [Cd.q_mk]; rfl, by rw [Cd.bare_mk]; exact ⟨⟨rfl, rfl, rfl, rfl, rfl⟩, fun x hx => by cases hx⟩,
    CdIn.made (h := 0) (by unfold I64; decide) h1 h2 (by simp) ⟨rfl, Nat.le_refl _, Nat.zero_le _, fun h => absurd h (by simp), fun j v h => by simp at h⟩ (fun h => absurd h (by simp)) (fun _ _ _ x hx => by cases hx)⟩

end Go.Proofs.Ytgjhaanpkfheeaa

namespace Go.Proofs.Ytgjhaanpkfheeaa
set_option linter.unusedVariables false
set_option linter.unusedSimpArgs false
open Go.RowKit

/-- a row that is one block -/
theorem owns_fresh {w : World} {base g n size : Nat} {e : TypeId} {cs : Array Value} (h : Blk w g e cs) (hb : base ≤ g) (hs : cs.size = n * size) (hn : n ≤ maxLen) : w.ownsRow base e size (.slice (some ⟨g, 0, none⟩) n n) n cs.toList :=
  ⟨by simpa using hs, Or.inr ⟨g, n, cs, rfl, hb, h, Nat.le_refl _, hn, hs, by rw [List.take_of_length_le (by simp [hs])]⟩⟩

end Go.Proofs.Ytgjhaanpkfheeaa

namespace Go.Proofs.Ytgjhaanpkfheeaa
set_option linter.unusedVariables false
set_option linter.unusedSimpArgs false
open Go.RowKit

theorem elCond : El 42 49 (.agg #[.int .i64 0, .slice none 0 0, .int .i64 0, .int .i64 0, .string ⟨#[]⟩, .int .i64 0, .int .i64 0, .int .i64 0, .int .i64 0, .int .i64 0, .slice none 0 0, .string ⟨#[]⟩, .string ⟨#[]⟩, .bool false]) 14 168 := ⟨Try.underlying42, by kernel_rfl, rfl, by decide⟩

def zero14 : Array Value := #[.int .i64 0, .slice none 0 0, .int .i64 0, .int .i64 0, .string ⟨#[]⟩, .int .i64 0, .int .i64 0, .int .i64 0, .int .i64 0, .int .i64 0, .slice none 0 0, .string ⟨#[]⟩, .string ⟨#[]⟩, .bool false]
theorem blk_puts {g : Nat} {t : TypeId} : ∀ (vs post : List Value) (w : World) (o : Nat) (pre : List Value), Blk w g t (pre ++ post).toArray → pre.length = o → post.length = vs.length → Blk (puts w g o vs) g t (pre ++ vs).toArray
  | [], post, w, o, pre, h, _, hl => by
    obtain rfl := List.eq_nil_of_length_eq_zero hl
    exact h
  | v :: vs, [], _, _, _, _, _, hl => by simp at hl
  | v :: vs, p :: post, w, o, pre, h, hp, hl => by
    have h1 := h.put o v
    have e : ((pre ++ p :: post).toArray.setIfInBounds o v) = ((pre ++ [v]) ++ post).toArray := by
      rw [List.setIfInBounds_toArray, List.set_append, if_neg (by omega), hp, Nat.sub_self, List.set_cons_zero, List.append_assoc]
      rfl
    rw [e] at h1
    have h2 := blk_puts vs post _ (o + 1) (pre ++ [v]) h1 (by simp [hp]) (by simpa using hl)
    rw [List.append_assoc] at h2
    exact h2

theorem below_put14 (cs : List Value) (w : World) (g o : Nat) : Below g w (puts w g o cs) := by
  have h := grownBy_puts cs w g o
  exact ⟨h.os, h.tape, h.output, h.size, fun b hb => by
    by_cases h2 : b < w.heap.size
    · exact h.block b h2 (fun e => by have := Option.some.inj e; omega)
    · rw [Array.getElem?_eq_none (by rw [puts_size]; omega), Array.getElem?_eq_none (by omega)]⟩
/-- conditions in a row of its own are the kids of one -/
theorem row_qd {B : Nat} {w : World} {k : Int} {v : Value} {D : List Cd} (hk : I64 k) (ho : w.ownsRow B 49 14 v D.length (D.flatMap ccells)) (hl : D.length * 8 ≤ 140737488355328) (hb : ∀ x ∈ D, x.bare)
    (hs : ∃ hh, Safe (· < B) w fun w => ∀ x ∈ D, CdIn w hh x) : isQd (· < B) (.mk k (D.map Cd.q) zeroQ) (.agg (qcells k v zeroQ).toArray) w := by
  obtain ⟨hh, hs⟩ := hs
  obtain ⟨voa, vcap, vg, rfl, hsl, hpos⟩ := sl_of_own ho
  refine ⟨.mk k voa vg 0 vcap D (bareL zeroQ), hh + 2, ?_, by rw [Cd.q_mk]; rfl, (Cd.bare_mk ..).2 ⟨⟨rfl, rfl, rfl, rfl, rfl⟩, hb⟩, CdIn.made hk (by unfold I64 zeroQ; decide) (by unfold I64 zeroQ; decide) hl hsl (fun h => by have := hpos h; omega) hs⟩
  unfold cv
  rw [ccells_bare]

/-- conditions that are joined: in the variable 'out' of a block go -/
structure Jn (B : Nat) (w0 w : World) (go : Nat) (k : Int) (v : Value) (D : List Cd) : Prop where
  bl : Below B w0 w
  box : Blk w go 49 (qcells k v zeroQ).toArray
  row : w.ownsRow B 49 14 v D.length (D.flatMap ccells)
  apart : ∀ b, v.ownBlock = some b → b ≠ go
  hgo : B ≤ go
  bare : ∀ x ∈ D, x.bare
  safe : ∃ hh, Safe (fun b => b < B ∨ b = go ∨ v.ownBlock = some b) w fun w => ∀ x ∈ D, CdIn w hh x

theorem Jn.below {B : Nat} {w0 w w' : World} {go : Nat} {k : Int} {v : Value} {D : List Cd} (h : Jn B w0 w go k v D) (hs : B ≤ w0.heap.size) (hb : Below w.heap.size w w') : Jn B w0 w' go k v D := by
  obtain ⟨hh, hS⟩ := h.safe
  exact ⟨h.bl.trans (hb.mono (by have := h.bl.size; omega)), h.box.below hb h.box.lt, owns_belowW h.row hb, h.apart, h.hgo, h.bare, hh, hS.below hb⟩
theorem Jn.start {B : Nat} {w0 w : World} {go gr hh : Nat} {k : Int} {x : Cd} (hb : Below B w0 w) (box : Blk w go 49 (qcells k (.slice (some ⟨gr, 0, none⟩) 1 1) zeroQ).toArray) (hrow : Blk w gr 49 (ccells x).toArray) (hg : B ≤ go) (hgr : B ≤ gr) (hne : gr ≠ go) (hx : x.bare)
    (hs : Safe (fun b => b < B ∨ b = go ∨ b = gr) w fun w => CdIn w hh x) : Jn B w0 w go k (.slice (some ⟨gr, 0, none⟩) 1 1) [x] := by
  refine ⟨hb, box, ?_, fun b e => ?_, hg, fun y hy => ?_, hh, ?_⟩
  · have := owns_fresh (n := 1) (size := 14) hrow hgr (by simp [ccells_length]) (by decide)
    simpa using this
  · have e : gr = b := Option.some.inj e
    omega
  · obtain rfl := List.mem_singleton.1 hy
    exact hx
  · refine Safe.mono (φ := fun w => CdIn w hh x) (hs.anti fun b hb' _ => ?_) fun w' hw y hy => ?_
    · rcases hb' with h | h | h
      · exact Or.inl h
      · exact Or.inr (Or.inl h)
      · exact Or.inr (Or.inr (Option.some.inj h).symm)
    · obtain rfl := List.mem_singleton.1 hy
      exact hw
theorem Jn.kind {B : Nat} {w0 w : World} {go : Nat} {k : Int} {v : Value} {D : List Cd} (h : Jn B w0 w go k v D) (k2 : Int) : Jn B w0 (w.setCell ⟨go, 0, none⟩ (.int .i64 k2)) go k2 v D := by
  obtain ⟨hh, hS⟩ := h.safe
  refine ⟨h.bl.setCell (p := ⟨go, 0, none⟩) h.hgo _, ?_, h.row.kept (grownBy_set w ⟨go, 0, none⟩ _) (.inr fun e => h.apart go e rfl), h.apart, h.hgo, h.bare, hh, hS.set (p := ⟨go, 0, none⟩) (Or.inr (Or.inl rfl)) _⟩
  have := h.box.put 0 (.int .i64 k2)
  simpa [qcells] using this
/-- a part is put behind the others -/
theorem Jn.add {B B3 : Nat} {w0 w w9 : World} {go gg cap3 h2 : Nat} {k : Int} {v : Value} {D : List Cd} {x2 : Cd} {cs : List Value} (hJ : Jn B w0 w go k v D) (hs : B ≤ w0.heap.size) (hg3 : go < B3) (hB3 : B3 ≤ w.heap.size) (hv3 : ∀ b, v.ownBlock = some b → b < B3)
    (hb2 : x2.bare) (hx : Safe (· < B3) w fun w => CdIn w h2 x2)
    (ho : w9.ownsRow B 49 14 (.slice (some ⟨gg, 0, none⟩) (D.length + 1) cap3) (D.length + 1) (D.flatMap ccells ++ cs)) (hcs : ccells x2 = cs)
    (hG : w.grownBy w9 v.ownBlock) (hat : v.ownBlock = some gg ∨ w.heap.size ≤ gg) :
    Jn B w0 (w9.setCell ⟨go, 1, none⟩ (.slice (some ⟨gg, 0, none⟩) (D.length + 1) cap3)) go k (.slice (some ⟨gg, 0, none⟩) (D.length + 1) cap3) (D ++ [x2]) := by
  have hP := grownBy_set w9 ⟨go, 1, none⟩ (.slice (some ⟨gg, 0, none⟩) (D.length + 1) cap3)
  have hww : B ≤ w.heap.size := by have := hJ.bl.size; omega
  have hggc : gg ≠ go := by
    rcases hat with h | h
    · exact hJ.apart gg h
    · have := hJ.box.lt
      omega
  have b9 : Blk w9 go _ _ := (hG.block go hJ.box.lt (fun e => hJ.apart go e.symm rfl)).trans hJ.box
  have hrow := hJ.row.lt
  refine ⟨?_, ?_, ?_, fun b e => ?_, hJ.hgo, fun y hy => ?_, ?_⟩
  · have h1 : Below B w0 w9 := ⟨hG.os.trans hJ.bl.os, hG.tape.trans hJ.bl.tape, hG.output.trans hJ.bl.output, Nat.le_trans hJ.bl.size hG.size, fun j hj => (hG.block j (by omega) (fun e => by have := (hrow j e.symm).1; omega)).trans (hJ.bl.block j hj)⟩
    exact h1.setCell (p := ⟨go, 1, none⟩) hJ.hgo _
  · have := b9.put 1 (.slice (some ⟨gg, 0, none⟩) (D.length + 1) cap3)
    simpa [qcells] using this
  · rw [List.length_append, List.flatMap_append, List.flatMap_singleton, hcs]
    exact ho.kept hP (.inr fun e => hggc (Option.some.inj e))
  · have e : gg = b := Option.some.inj e
    subst e
    exact hggc
  · rcases List.mem_append.1 hy with h | h
    · exact hJ.bare y h
    · obtain rfl := List.mem_singleton.1 h
      exact hb2
  · obtain ⟨hh, hS⟩ := hJ.safe
    refine ⟨max hh h2, ?_⟩
    have hA : ∀ b, (b < B ∨ b = go ∨ (Value.slice (some ⟨gg, 0, none⟩) (D.length + 1) cap3).ownBlock = some b) → (b < B ∨ b = go ∨ v.ownBlock = some b) ∨ w.heap.size ≤ b := by
      intro b hb
      rcases hb with hb | hb | hb
      · exact Or.inl (Or.inl hb)
      · exact Or.inl (Or.inr (Or.inl hb))
      · have e : gg = b := Option.some.inj hb
        subst e
        rcases hat with h | h
        · exact Or.inl (Or.inr (Or.inr h))
        · exact Or.inr (by omega)
    have s1 := (((hS.wide (A' := fun b => (b < B ∨ b = go ∨ v.ownBlock = some b) ∨ w.heap.size ≤ b) fun b h => h).grown hG (fun k e _ => Or.inl (Or.inr (Or.inr e)))).set (p := ⟨go, 1, none⟩) (Or.inl (Or.inr (Or.inl rfl))) (.slice (some ⟨gg, 0, none⟩) (D.length + 1) cap3)).anti fun b hb _ => hA b hb
    have s2 := (((hx.wide (A' := fun b => b < B3 ∨ w.heap.size ≤ b) fun b h => h).grown hG (fun k e _ => Or.inl (hv3 k e))).set (p := ⟨go, 1, none⟩) (Or.inl hg3) (.slice (some ⟨gg, 0, none⟩) (D.length + 1) cap3)).anti (A' := fun b => b < B ∨ b = go ∨ (Value.slice (some ⟨gg, 0, none⟩) (D.length + 1) cap3).ownBlock = some b) fun b hb _ => by
      rcases hA b hb with (hb | hb | hb) | hb
      · exact Or.inl (by have := hJ.hgo; omega)
      · exact Or.inl (by omega)
      · exact Or.inl (hv3 b hb)
      · exact Or.inr hb
    refine Safe.mono (ψ := fun w => ∀ y ∈ D ++ [x2], CdIn w (max hh h2) y) (s1.and s2) fun w' hw y hy => ?_
    rcases List.mem_append.1 hy with h | h
    · exact cdin_up _ _ (Nat.le_max_left _ _) (hw.1 y h)
    · obtain rfl := List.mem_singleton.1 h
      exact cdin_up _ _ (Nat.le_max_right _ _) hw.2
theorem Jn.done {B : Nat} {w0 w : World} {go : Nat} {k : Int} {v : Value} {D : List Cd} (h : Jn B w0 w go k v D) (hk : I64 k) (hl : D.length * 8 ≤ 140737488355328) : isQd (· < B) (.mk k (D.map Cd.q) zeroQ) (.agg (qcells k v zeroQ).toArray) w := by
  obtain ⟨hh, hS⟩ := h.safe
  exact row_qd hk h.row hl h.bare ⟨hh, hS.anti fun b hb _ => Or.inl hb⟩

end Go.Proofs.Ytgjhaanpkfheeaa

namespace Go.Proofs.Ytgjhaanpkfheeaa
set_option linter.unusedVariables false
set_option linter.unusedSimpArgs false
open Go.RowKit

set_option maxRecDepth 20000 in
set_option maxHeartbeats 4000000 in
theorem small15_any (m : List UInt8) (w : World) (hm : m.length ≤ 9223372036854775807) :
    Calls Try.prog 133 #[.string ⟨m.toArray⟩] w fun e w' => e = .returned (.string ⟨(lowS m).toArray⟩) ∧ Below w.heap.size w w' := by
  obtain ⟨cap, w1, hrun, hb1, hbl⟩ := bytes_made m w
  obtain ⟨N, hN⟩ : ∃ N, m.length = N := ⟨_, rfl⟩
  rw [hN] at hrun hm
  have HN := Lib.hid hN
  obtain ⟨g, hg⟩ : ∃ g, w.heap.size = g := ⟨_, rfl⟩
  rw [hg] at hrun hb1 hbl ⊢
  have HB0 := Lib.hid hb1
  have HBL := Lib.hid hbl
  clear hN hb1 hbl hg
  go_enter Try.func133, Try.ntmps133
  go_wp2_with fail
  go_loopg [10] N (fun q s10 wr => ∃ (i : Nat), s10 = .int .i64 i ∧ Hid (Below g w wr) ∧ Hid (Bl wr g (lowG m i)) ∧ i ≤ N ∧ N - i ≤ q)
  case atStart => exact ⟨0, rfl, HB0, HBL, Nat.zero_le _, by omega⟩
  case round =>
    clear HB0 HBL hrun
    obtain ⟨i, rfl, hb, hbl, hiN, hq⟩ := hrel
    by_cases hi : i < N
    · have gi : decide ((i : Int) < (N : Int)) = true := by simpa using hi
      have gin : decide (i < N) = true := by simpa using hi
      have him : i < m.length := by rw [HN.out]; exact hi
      have hcell := hbl.out.cell i _ (lowG_at him)
      have hfree := hbl.out.free i (by rw [lowG_len]; exact him)
      have hlt := hbl.out.lt
      have hst := lowG_step him
      obtain ⟨c, hc⟩ : ∃ c, m[i] = c := ⟨_, rfl⟩
      rw [hc] at hcell hst
      have hc256 := UInt8.toNat_lt c
      have hset := hbl.out.set (i := i) (by rw [lowG_len]; exact him) (lowB c)
      rw [← hst] at hset
      by_cases hup : 65 ≤ c.toNat ∧ c.toNat ≤ 90
      · rw [lowB_up hup] at hset
        obtain ⟨n, hn⟩ : ∃ n, c.toNat = n := ⟨_, rfl⟩
        rw [hn] at hcell hset hup hc256
        have g1 : decide ((65 : Int) ≤ (n : Int)) = true := by simp; omega
        have e97 : (n : Int) + 97 - 65 = (n : Int) + 32 := by omega
        have g2 : decide ((n : Int) ≤ (90 : Int)) = true := by simp; omega
        have HS := Lib.hid hset
        clear hset hst hc hn hbl
        go_wp2_with fail
        go_roundg (N - (i + 1))
        case measure => omega
        case rel => exact ⟨i + 1, by go_num, Lib.hid (hb.out.setCell (by simp) _), Lib.hid (by have := HS.out; simpa using this), hi, Nat.le_refl _⟩
      · have hsame : lowG m (i + 1) = lowG m i := by
          rw [hst, lowB_same hup]
          refine List.ext_getElem? fun j => ?_
          by_cases hj : i = j
          · subst hj
            rw [List.getElem?_set_self (by rw [lowG_len]; exact him), lowG_at him, hc]
          · rw [List.getElem?_set_ne hj]
        obtain ⟨n, hn⟩ : ∃ n, c.toNat = n := ⟨_, rfl⟩
        rw [hn] at hcell hup hc256
        have ways : decide ((65 : Int) ≤ (n : Int)) = false ∨ decide ((65 : Int) ≤ (n : Int)) = true ∧ decide ((n : Int) ≤ (90 : Int)) = false := by
          by_cases h : 65 ≤ n
          · exact Or.inr ⟨by simp; omega, by simp; omega⟩
          · exact Or.inl (by simp; omega)
        have HBL2 := Lib.hid (show Bl wr g (lowG m (i + 1)) by rw [hsame]; exact hbl.out)
        clear hset hst hc hn hbl hsame
        rcases ways with g1 | ⟨g1, g2⟩
        all_goals
          go_wp2_with fail
          go_roundg (N - (i + 1))
          case measure => omega
          case rel => exact ⟨i + 1, by go_num, hb, HBL2, hi, Nat.le_refl _⟩
    · obtain rfl : i = N := by omega
      have gi : decide ((i : Int) < (i : Int)) = false := by simp
      have gin : decide (i < i) = false := by simp
      have htx := hbl.out.text cap
      rw [lowG_len, HN.out] at htx
      have hall : lowG m i = lowS m := by rw [← HN.out, lowG_all]
      rw [hall] at htx
      clear hbl hall
      go_wp2_with fail
      go_ret
      exact ⟨rfl, hb.out⟩


def wordAt (l : List Vt) (i : Nat) : List UInt8 := (l[i]?.map wordV).getD []
theorem tk_of_in {w : World} {h : Nat} {t : Tk} {oa : Option Addr} {b o cap : Nat} {kids : List Vl} (hx : VlIn w h (.mk t oa b o cap kids)) : Tk64 t := by
  obtain _ | h := h
  · exact hx.elim
  · exact hx.1

set_option maxHeartbeats 2000000 in
theorem word15_any (h : Nat) (l : List Vl) (oa : Option Addr) (cap b o i : Nat) (w : World) (hs : VsIn w h oa cap b o l) (hi : i ≤ 4611686018427387904) :
    Calls Try.prog 125 #[.slice oa l.length cap, .int .i64 (i : Int)] w fun e w' => e = .returned (.string ⟨(wordAt (l.map Vl.c) i).toArray⟩) ∧ Below w.heap.size w w' := by
  have hcl := hs.sl.le
  have hcm := hs.sl.max
  unfold maxLen at hcm
  by_cases h1 : i < l.length
  · have gj : decide ((l.length : Int) ≤ (i : Int)) = false := by simp; omega
    have gjn : decide (l.length ≤ i) = false := by simp; omega
    have hil : i < l.length := h1
    have hli : l[i]? = some l[i] := List.getElem?_eq_getElem hil
    obtain ⟨rfl, hbl⟩ := hs.sl.lies (by omega)
    obtain ⟨x, hx⟩ : ∃ x, l[i] = x := ⟨_, rfl⟩
    rw [hx] at hli
    have hxc : wordAt (l.map Vl.c) i = wordV x.c := by
      unfold wordAt
      rw [List.getElem?_map, hli]
      rfl
    have h64 := (hs.each i x hli)
    obtain ⟨t, koa, kb, ko, kcap, kids⟩ := x
    have f0 := hs.cell hli (j := 0) rfl
    have f1 := hs.cell hli (j := 1) rfl
    rw [Nat.add_zero] at f0
    obtain ⟨tk, tt, ⟨tn, td⟩, ti, tid⟩ := t

    obtain ⟨N, hN⟩ : ∃ N, l.length = N := ⟨_, rfl⟩
    have htl : tt.length ≤ 9223372036854775807 := (tk_of_in h64).2.2
    rw [hN] at gj gjn hcl h1 ⊢
    rw [hxc]
    by_cases hk : tk = 1
    · have hw : wordV (Vl.mk ⟨tk, tt, (tn, td), ti, tid⟩ koa kb ko kcap kids).c = lowS tt := by
        rw [Vl.c_mk]
        show (if tk = 1 then lowS tt else []) = lowS tt
        rw [if_pos hk]
      rw [hw]
      subst hk
      have HSM := Lib.hid (fun w => small15_any tt w htl)
      clear hs hli hx hxc h64 hN htl hw
      go_enter Try.func125, Try.ntmps125
      go_wp2_with fail
      ((with_reducible refine (HSM.out _).mono ?_); rintro e w2 ⟨rfl, hb2⟩)
      have HB2 := Lib.hid hb2
      clear hb2
      go_wp2_with fail
      go_ret
      exact ⟨rfl, HB2.out⟩
    · have hw : wordV (Vl.mk ⟨tk, tt, (tn, td), ti, tid⟩ koa kb ko kcap kids).c = [] := by
        rw [Vl.c_mk]
        show (if tk = 1 then lowS tt else []) = []
        rw [if_neg hk]
      rw [hw]
      have gk : (tk != (1 : Int)) = true := by simpa using hk
      clear hs hli hx hxc h64 hN htl hw hk
      go_enter Try.func125, Try.ntmps125
      go_wp2_with fail
      go_ret
      exact ⟨rfl, Below.refl _ _⟩
  · have gj : decide ((l.length : Int) ≤ (i : Int)) = true := by simp; omega
    have gjn : decide (l.length ≤ i) = true := by simp; omega
    have hw : wordAt (l.map Vl.c) i = [] := by
      unfold wordAt
      rw [List.getElem?_eq_none (by rw [List.length_map]; omega)]
      rfl
    rw [hw]
    generalize l.length = N at *
    clear hs hw
    go_enter Try.func125, Try.ntmps125
    go_wp2_with fail
    go_ret
    exact ⟨rfl, Below.refl _ _⟩

end Go.Proofs.Ytgjhaanpkfheeaa

namespace Go.Proofs.Ytgjhaanpkfheeaa
set_option linter.unusedVariables false
set_option linter.unusedSimpArgs false
open Go.ChangeShapes Go.WideShapes Go.ChangeAt Go.RowKit Go.Deep

section
variable {H : Type} {enc : TypeId × Value → H} {w : World} {base : Nat} {spare : Nat → Bool} {held : Bool}

end

theorem reach_le {n : Nat} (h : n ≤ reachBytes) : n ≤ 140737488355328 := Nat.le_trans h (by decide)
theorem reach_of {H : Type} {P : Program} {ts : List TypeId} {ds : List (DataW H)} (h : (DataW.weightsEach P ts ds).all (· ≤ reachBytes) = true) {j : Nat} {t : TypeId} {d : DataW H} (ht : ts[j]? = some t) (hd : ds[j]? = some d) : ∀ n ∈ d.weights P t, n ≤ 140737488355328 := fun n hn =>
  reach_le (by simpa using List.all_eq_true.1 h n (DataW.weights_mem_each ht hd n hn))

end Go.Proofs.Ytgjhaanpkfheeaa
