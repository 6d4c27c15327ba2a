/- Of my texts: TokN, TokQ, ValT, ValA, ValB, ValC, OpenV. -/
import Derived.Test.YtgjhaanpkfheeaaM03
import Derived.Test.YtgjhaanpkfheeaaM04
import Derived.Test.YtgjhaanpkfheeaaM05
import Derived.Test.YtgjhaanpkfheeaaM11
import Derived.Test.YtgjhaanpkfheeaaM14
import Derived.Test.YtgjhaanpkfheeaaM16
import Derived.Test.YtgjhaanpkfheeaaM17
import Derived.Test.YtgjhaanpkfheeaaM19
import Derived.Lib.ItoaNum
import Derived.OwnWalk
import Derived.Deep.CutBlock
import Derived.Deep.DeepCutAuto
import Derived.SizedLaws
namespace Go.Proofs.Ytgjhaanpkfheeaa
set_option linter.unusedVariables false
set_option linter.unusedSimpArgs false
open Go.RowKit

theorem Sl.mid {w : World} {oa oa' : Option Addr} {n cap b o : Nat} {vs : List Value} (h : Sl w oa n cap b o 1 vs) {i e : Nat} (hi : i ≤ e) (he : e ≤ n) (ha : 0 < e - i → oa' = some ⟨b, o + i, none⟩) :
    Sl w oa' (e - i) (cap - i) b (o + i) 1 ((vs.drop i).take (e - i)) :=
  ⟨by have := h.len; rw [List.length_take, List.length_drop]; omega, by have := h.le; omega, by have := h.max; omega, fun hp => ⟨ha hp, (h.lies (by omega)).2⟩, fun j v hv => by
    rw [List.getElem?_take] at hv
    split at hv
    · rw [List.getElem?_drop] at hv
      rw [show o + i + j = o + (i + j) by omega]
      exact h.cell (i + j) v hv
    · cases hv⟩
end Go.Proofs.Ytgjhaanpkfheeaa

namespace Go.Proofs.Ytgjhaanpkfheeaa
set_option linter.unusedVariables false
set_option linter.unusedSimpArgs false
open Go.RowKit

def tkcells (t : Tk) : List Value := [.int .i64 t.kind, .string ⟨t.text.toArray⟩, .int .i64 t.num.1, .int .i64 t.num.2, .bool t.int, .bool t.id]
def toksV (l : List Tk) : List Value := l.flatMap tkcells
theorem elTok : El 136 72 (.agg #[.int .i64 0, .string ⟨#[]⟩, .int .i64 0, .int .i64 0, .bool false, .bool false]) 6 48 := ⟨Try.underlying136, by kernel_rfl, rfl, by decide⟩

end Go.Proofs.Ytgjhaanpkfheeaa

namespace Go.Proofs.Ytgjhaanpkfheeaa
set_option linter.unusedVariables false
set_option linter.unusedSimpArgs false
open Go.ChangeShapes Go.WideShapes Go.ChangeAt Go.RowKit Go.Deep

/-- a component value, with the place of its kids -/
inductive Vl where
  | mk (t : Tk) (oa : Option Addr) (b o cap : Nat) (kids : List Vl)
instance : Inhabited Vl := ⟨.mk ⟨0, [], (0, 0), false, false⟩ none 0 0 0 []⟩

def vcells : Vl → List Value
  | .mk t oa _ _ cap kids => tkcells t ++ [.slice oa kids.length cap]
def vv (v : Vl) : Value := .agg (vcells v).toArray
theorem vcells_length (v : Vl) : (vcells v).length = 7 := by cases v; rfl

mutual
def Vl.c : Vl → Vt
  | .mk t _ _ _ _ kids => .mk t (Vl.cs kids)
def Vl.cs : List Vl → List Vt
  | [] => []
  | x :: r => x.c :: Vl.cs r
end
theorem Vl.cs_map : ∀ l : List Vl, Vl.cs l = l.map Vl.c
  | [] => rfl
  | x :: r => by rw [Vl.cs, Vl.cs_map r]; rfl
theorem Vl.c_mk (t : Tk) (oa : Option Addr) (b o cap : Nat) (kids : List Vl) : (Vl.mk t oa b o cap kids).c = .mk t (kids.map Vl.c) := by
  rw [Vl.c, Vl.cs_map]

/-- a token whose numbers are numbers -/
def Tk64 (t : Tk) : Prop := I64 t.kind ∧ Is64 t.num ∧ t.text.length ≤ 9223372036854775807

/-- the value lies in the world; its height is below h -/
def VlIn (w : World) : Nat → Vl → Prop
  | 0, _ => False
  | h + 1, .mk t oa b o cap kids => Tk64 t ∧ kids.length * 72 ≤ 140737488355328 ∧ Sl w oa kids.length cap b o 7 (kids.flatMap vcells) ∧ ∀ (i : Nat) (x : Vl), kids[i]? = some x → VlIn w h x
/-- values lie behind a slice -/
structure VsIn (w : World) (h : Nat) (oa : Option Addr) (cap b o : Nat) (l : List Vl) : Prop where
  small : l.length * 72 ≤ 140737488355328
  sl : Sl w oa l.length cap b o 7 (l.flatMap vcells)
  each : ∀ (i : Nat) (x : Vl), l[i]? = some x → VlIn w h x

theorem VlIn.below : ∀ (h : Nat) {v : Vl} {w w' : World}, VlIn w h v → Below w.heap.size w w' → VlIn w' h v
  | 0, _, _, _, hx, _ => hx.elim
  | h + 1, .mk t oa b o cap kids, w, w', hx, hb => ⟨hx.1, hx.2.1, hx.2.2.1.below hb, fun i x hi => VlIn.below h (hx.2.2.2 i x hi) hb⟩
theorem VlIn.mono : ∀ (h h' : Nat) {w : World} {v : Vl}, h ≤ h' → VlIn w h v → VlIn w h' v
  | 0, _, _, _, _, hx => hx.elim
  | h + 1, 0, _, _, hl, _ => by omega
  | h + 1, h' + 1, w, .mk t oa b o cap kids, hl, hx => ⟨hx.1, hx.2.1, hx.2.2.1, fun i x hi => VlIn.mono h h' (by omega) (hx.2.2.2 i x hi)⟩
theorem VsIn.below {w w' : World} {h : Nat} {oa : Option Addr} {cap b o : Nat} {l : List Vl} (hs : VsIn w h oa cap b o l) (hb : Below w.heap.size w w') : VsIn w' h oa cap b o l :=
  ⟨hs.small, hs.sl.below hb, fun i x hi => (hs.each i x hi).below h hb⟩
theorem VsIn.mono {w : World} {h h' : Nat} {oa : Option Addr} {cap b o : Nat} {l : List Vl} (hs : VsIn w h oa cap b o l) (hl : h ≤ h') : VsIn w h' oa cap b o l :=
  ⟨hs.small, hs.sl, fun i x hi => (hs.each i x hi).mono h h' hl⟩
theorem VlIn.kids {w : World} {h : Nat} {t : Tk} {oa : Option Addr} {b o cap : Nat} {kids : List Vl} (hx : VlIn w (h + 1) (.mk t oa b o cap kids)) : VsIn w h oa cap b o kids := ⟨hx.2.1, hx.2.2.1, hx.2.2.2⟩

/-- the cells of one among things of so many cells -/
theorem flat_at {α : Type} {f : α → List Value} {sz : Nat} (hf : ∀ x, (f x).length = sz) : ∀ (l : List α) (i : Nat) (x : α) (j : Nat) (v : Value), l[i]? = some x → (f x)[j]? = some v → (l.flatMap f)[i * sz + j]? = some v
  | [], i, x, j, v, h, _ => by simp at h
  | y :: l, 0, x, j, v, h, hv => by
    obtain rfl := Option.some.inj h
    rw [List.flatMap_cons, Nat.zero_mul, Nat.zero_add, List.getElem?_append_left (List.getElem?_eq_some_iff.1 hv).1]
    exact hv
  | y :: l, i + 1, x, j, v, h, hv => by
    have ih := flat_at hf l i x j v (by simpa using h) hv
    have := hf y
    rw [List.flatMap_cons, List.getElem?_append_right (by rw [this, Nat.succ_mul]; omega), this, show (i + 1) * sz + j - sz = i * sz + j by rw [Nat.succ_mul]; omega]
    exact ih
theorem flat_split {α : Type} {f : α → List Value} {sz : Nat} (hf : ∀ x, (f x).length = sz) (hz : 0 < sz) : ∀ (l : List α) (k : Nat) (v : Value), (l.flatMap f)[k]? = some v → ∃ i x j, l[i]? = some x ∧ (f x)[j]? = some v ∧ k = i * sz + j
  | [], k, v, h => by simp at h
  | y :: l, k, v, h => by
    have hy := hf y
    rw [List.flatMap_cons] at h
    rcases Nat.lt_or_ge k sz with hk | hk
    · rw [List.getElem?_append_left (by omega)] at h
      exact ⟨0, y, k, rfl, h, by omega⟩
    · rw [List.getElem?_append_right (by omega), hy] at h
      obtain ⟨i, x, j, h1, h2, h3⟩ := flat_split hf hz l (k - sz) v h
      exact ⟨i + 1, x, j, by simpa using h1, h2, by rw [Nat.succ_mul]; omega⟩
theorem flat_length {α : Type} {f : α → List Value} {sz : Nat} (hf : ∀ x, (f x).length = sz) : ∀ l : List α, (l.flatMap f).length = l.length * sz
  | [] => by simp
  | y :: l => by rw [List.flatMap_cons, List.length_append, hf, flat_length hf l, List.length_cons, Nat.succ_mul]; omega

theorem VsIn.cell {w : World} {h : Nat} {oa : Option Addr} {cap b o : Nat} {l : List Vl} (hs : VsIn w h oa cap b o l) {i : Nat} {x : Vl} (hi : l[i]? = some x) {j : Nat} {v : Value} (hv : (vcells x)[j]? = some v) : w.cell? ⟨b, o + i * 7 + j, none⟩ = some v := by
  rw [show o + i * 7 + j = o + (i * 7 + j) by omega]
  exact hs.sl.cell _ _ (flat_at vcells_length l i x j v hi hv)

theorem cellsToken : Try.prog.cellsOf 72 = 6 := by kernel_rfl
theorem cellsValue : Try.prog.cellsOf 74 = 7 := by kernel_rfl
theorem cellsValues : Try.prog.cellsOf 61 = 1 := by kernel_rfl
theorem bytesValue : Try.prog.bytesOf 74 = 72 := by kernel_rfl
theorem cellsStr : Try.prog.cellsOf 9 = 1 := by kernel_rfl
theorem cellsBl : Try.prog.cellsOf 4 = 1 := by kernel_rfl
theorem six {α : Type} {l : List α} (h : l.length = 6) : ∃ a b c d e f, l = [a, b, c, d, e, f] := by
  match l, h with
  | [a, b, c, d, e, f], _ => exact ⟨a, b, c, d, e, f, rfl⟩
theorem seven {α : Type} {l : List α} (h : l.length = 7) : ∃ a b c d e f g, l = [a, b, c, d, e, f, g] := by
  match l, h with
  | [a, b, c, d, e, f, g], _ => exact ⟨a, b, c, d, e, f, g, rfl⟩

section
variable {H : Type} {enc : TypeId × Value → H} {w : World} {base : Nat} {spare : Nat → Bool} {held : Bool}

set_option maxRecDepth 100000 in
theorem open_tk (fuel : Nat) (cs : List Value) (x : DataW H × List MemPlace) (h : DataW.trod enc Try.prog w base spare held fuel 72 cs = some x) : ∃ t : Tk, cs = tkcells t ∧ Tk64 t := by
  obtain ⟨xs, n, rfl, rfl, hl, hlen, hf⟩ := DataW.trod_struct Try.underlying72 h
  obtain ⟨y0, y1, y2, y3, y4, rfl⟩ := five hlen
  obtain ⟨c0, c1, c2, c3, c4, c5, rfl⟩ := six (hl.trans cellsToken)
  have g0 := hf 0 _ rfl
  have g1 := hf 1 _ rfl
  have g2 := hf 2 _ rfl
  have g3 := hf 3 _ rfl
  have g4 := hf 4 _ rfl
  simp only [List.getElem_toArray, List.getElem_cons_zero, List.getElem_cons_succ, cellsInt, cellsRat, cellsStr, cellsBl, List.drop_zero, List.drop_succ_cons, List.take_succ_cons, List.take_zero, List.getElem?_cons_zero, List.getElem?_cons_succ] at g0 g1 g2 g3 g4
  obtain ⟨k, e0, rfl, w0⟩ := DataW.trod_int Try.underlying3 g0
  obtain ⟨s, e1, rfl, ws⟩ := DataW.trod_string Try.underlying9 g1
  obtain ⟨ys, m, rfl, rfl, _, hlen2, hf2⟩ := DataW.trod_struct Try.underlying23 g2
  obtain ⟨z0, z1, rfl⟩ := two hlen2
  have r0 := hf2 0 _ rfl
  have r1 := hf2 1 _ rfl
  simp only [List.getElem_toArray, List.getElem_cons_zero, List.getElem_cons_succ, cellsInt64, List.drop_zero, List.drop_succ_cons, List.take_succ_cons, List.take_zero, List.getElem?_cons_zero, List.getElem?_cons_succ] at r0 r1
  obtain ⟨nn, en, rfl, wn⟩ := DataW.trod_int Try.underlying2 r0
  obtain ⟨dd, ed, rfl, wd⟩ := DataW.trod_int Try.underlying2 r1
  obtain ⟨b1, e3, rfl⟩ := DataW.trod_bool Try.underlying4 g3
  obtain ⟨b2, e4, rfl⟩ := DataW.trod_bool Try.underlying4 g4
  simp only [List.cons.injEq, and_true] at e0 e1 en ed e3 e4
  subst e0 e1 en ed e3 e4
  obtain ⟨⟨sl⟩⟩ := s
  exact ⟨⟨k, sl, (nn, dd), b1, b2⟩, rfl, int_of_wf w0, is64_of_wf wn wd, ws⟩

end
end Go.Proofs.Ytgjhaanpkfheeaa

namespace Go.Proofs.Ytgjhaanpkfheeaa
set_option linter.unusedVariables false
set_option linter.unusedSimpArgs false
open Go.RowKit

theorem mayV_nil (n : Nat) : mayV n [] = true := by rw [mayV]
theorem mayV_cons (n : Nat) (t : Tk) (k r : List Vt) : mayV n (.mk t k :: r) = (decide (1 ≤ t.kind) && decide (t.kind ≤ 24) && (if closeF t.kind = 0 then k.isEmpty else match n with
      | 0 => false
      | n + 1 => mayV n k) && mayV n r) := by
  rw [mayV.eq_def]
  cases n <;> rfl

set_option maxHeartbeats 1000000 in
theorem closer_any (k : Int) (w : World) : Calls Try.prog 117 #[.int .i64 k] w fun e w' => e = .returned (.int .i64 (closeF k)) ∧ w' = w := by
  have ways : k ≤ 1 ∨ k = 2 ∨ (3 ≤ k ∧ k ≤ 18) ∨ k = 19 ∨ k = 20 ∨ k = 21 ∨ k = 22 ∨ k = 23 ∨ 24 ≤ k := by omega
  rcases ways with h | rfl | h | rfl | rfl | rfl | rfl | rfl | h
  · -- None..1
    have g0 : ((k == 2)) = false := by simp; omega
    have g1 : ((k == 21)) = false := by simp; omega
    have g2 : ((k == 19)) = false := by simp; omega
    have g3 : ((k == 23)) = false := by simp; omega
    have hv : closeF k = 0 := by unfold closeF; rw [if_neg (by omega), if_neg (by omega), if_neg (by omega)]
    have HV := Lib.hid hv
    clear hv
    go_enter Try.func117, Try.ntmps117
    go_wp2_with fail
    go_ret
    exact ⟨by rw [HV.out]; rfl, rfl⟩
  · -- 2..2
    have hv : closeF (2) = 22 := rfl
    have HV := Lib.hid hv
    clear hv
    go_enter Try.func117, Try.ntmps117
    go_wp2_with fail
    go_ret
    exact ⟨by rw [HV.out]; rfl, rfl⟩
  · -- 3..18
    have g0 : ((k == 2)) = false := by simp; omega
    have g1 : ((k == 21)) = false := by simp; omega
    have g2 : ((k == 19)) = false := by simp; omega
    have g3 : ((k == 23)) = false := by simp; omega
    have hv : closeF k = 0 := by unfold closeF; rw [if_neg (by omega), if_neg (by omega), if_neg (by omega)]
    have HV := Lib.hid hv
    clear hv
    go_enter Try.func117, Try.ntmps117
    go_wp2_with fail
    go_ret
    exact ⟨by rw [HV.out]; rfl, rfl⟩
  · -- 19..19
    have hv : closeF (19) = 20 := rfl
    have HV := Lib.hid hv
    clear hv
    go_enter Try.func117, Try.ntmps117
    go_wp2_with fail
    go_ret
    exact ⟨by rw [HV.out]; rfl, rfl⟩
  · -- 20..20
    have hv : closeF (20) = 0 := rfl
    have HV := Lib.hid hv
    clear hv
    go_enter Try.func117, Try.ntmps117
    go_wp2_with fail
    go_ret
    exact ⟨by rw [HV.out]; rfl, rfl⟩
  · -- 21..21
    have hv : closeF (21) = 22 := rfl
    have HV := Lib.hid hv
    clear hv
    go_enter Try.func117, Try.ntmps117
    go_wp2_with fail
    go_ret
    exact ⟨by rw [HV.out]; rfl, rfl⟩
  · -- 22..22
    have hv : closeF (22) = 0 := rfl
    have HV := Lib.hid hv
    clear hv
    go_enter Try.func117, Try.ntmps117
    go_wp2_with fail
    go_ret
    exact ⟨by rw [HV.out]; rfl, rfl⟩
  · -- 23..23
    have hv : closeF (23) = 24 := rfl
    have HV := Lib.hid hv
    clear hv
    go_enter Try.func117, Try.ntmps117
    go_wp2_with fail
    go_ret
    exact ⟨by rw [HV.out]; rfl, rfl⟩
  · -- 24..None
    have g0 : ((k == 2)) = false := by simp; omega
    have g1 : ((k == 21)) = false := by simp; omega
    have g2 : ((k == 19)) = false := by simp; omega
    have g3 : ((k == 23)) = false := by simp; omega
    have hv : closeF k = 0 := by unfold closeF; rw [if_neg (by omega), if_neg (by omega), if_neg (by omega)]
    have HV := Lib.hid hv
    clear hv
    go_enter Try.func117, Try.ntmps117
    go_wp2_with fail
    go_ret
    exact ⟨by rw [HV.out]; rfl, rfl⟩

set_option maxHeartbeats 1000000 in
theorem rcloser_any (k : Int) (w : World) : Calls Try.prog 124 #[.int .i64 k] w fun e w' => e = .returned (.int .i64 (closeF k)) ∧ w' = w := by
  have ways : k ≤ 1 ∨ k = 2 ∨ (3 ≤ k ∧ k ≤ 18) ∨ k = 19 ∨ k = 20 ∨ k = 21 ∨ k = 22 ∨ k = 23 ∨ 24 ≤ k := by omega
  rcases ways with h | rfl | h | rfl | rfl | rfl | rfl | rfl | h
  · -- None..1
    have g0 : ((k == 2)) = false := by simp; omega
    have g1 : ((k == 21)) = false := by simp; omega
    have g2 : ((k == 19)) = false := by simp; omega
    have g3 : ((k == 23)) = false := by simp; omega
    have hv : closeF k = 0 := by unfold closeF; rw [if_neg (by omega), if_neg (by omega), if_neg (by omega)]
    have HV := Lib.hid hv
    clear hv
    go_enter Try.func124, Try.ntmps124
    go_wp2_with fail
    go_ret
    exact ⟨by rw [HV.out]; rfl, rfl⟩
  · -- 2..2
    have hv : closeF (2) = 22 := rfl
    have HV := Lib.hid hv
    clear hv
    go_enter Try.func124, Try.ntmps124
    go_wp2_with fail
    go_ret
    exact ⟨by rw [HV.out]; rfl, rfl⟩
  · -- 3..18
    have g0 : ((k == 2)) = false := by simp; omega
    have g1 : ((k == 21)) = false := by simp; omega
    have g2 : ((k == 19)) = false := by simp; omega
    have g3 : ((k == 23)) = false := by simp; omega
    have hv : closeF k = 0 := by unfold closeF; rw [if_neg (by omega), if_neg (by omega), if_neg (by omega)]
    have HV := Lib.hid hv
    clear hv
    go_enter Try.func124, Try.ntmps124
    go_wp2_with fail
    go_ret
    exact ⟨by rw [HV.out]; rfl, rfl⟩
  · -- 19..19
    have hv : closeF (19) = 20 := rfl
    have HV := Lib.hid hv
    clear hv
    go_enter Try.func124, Try.ntmps124
    go_wp2_with fail
    go_ret
    exact ⟨by rw [HV.out]; rfl, rfl⟩
  · -- 20..20
    have hv : closeF (20) = 0 := rfl
    have HV := Lib.hid hv
    clear hv
    go_enter Try.func124, Try.ntmps124
    go_wp2_with fail
    go_ret
    exact ⟨by rw [HV.out]; rfl, rfl⟩
  · -- 21..21
    have hv : closeF (21) = 22 := rfl
    have HV := Lib.hid hv
    clear hv
    go_enter Try.func124, Try.ntmps124
    go_wp2_with fail
    go_ret
    exact ⟨by rw [HV.out]; rfl, rfl⟩
  · -- 22..22
    have hv : closeF (22) = 0 := rfl
    have HV := Lib.hid hv
    clear hv
    go_enter Try.func124, Try.ntmps124
    go_wp2_with fail
    go_ret
    exact ⟨by rw [HV.out]; rfl, rfl⟩
  · -- 23..23
    have hv : closeF (23) = 24 := rfl
    have HV := Lib.hid hv
    clear hv
    go_enter Try.func124, Try.ntmps124
    go_wp2_with fail
    go_ret
    exact ⟨by rw [HV.out]; rfl, rfl⟩
  · -- 24..None
    have g0 : ((k == 2)) = false := by simp; omega
    have g1 : ((k == 21)) = false := by simp; omega
    have g2 : ((k == 19)) = false := by simp; omega
    have g3 : ((k == 23)) = false := by simp; omega
    have hv : closeF k = 0 := by unfold closeF; rw [if_neg (by omega), if_neg (by omega), if_neg (by omega)]
    have HV := Lib.hid hv
    clear hv
    go_enter Try.func124, Try.ntmps124
    go_wp2_with fail
    go_ret
    exact ⟨by rw [HV.out]; rfl, rfl⟩

set_option maxRecDepth 20000 in
set_option maxHeartbeats 8000000 in
theorem mayv_any : ∀ (n h : Nat) (l : List Vl) (oa : Option Addr) (cap b o : Nat) (w : World) (D : Int), D = (n : Int) → n ≤ 64 → VsIn w h oa cap b o l →
    Calls Try.prog 96 #[.slice oa l.length cap, .int .i64 D] w fun e w' => e = .returned (.bool (mayV n (l.map Vl.c))) ∧ Below w.heap.size w w' := by
  intro n
  induction n using Nat.strongRecOn with
  | _ n ih =>
    intro h l oa cap b o w D hD hn hs
    obtain ⟨N, hN⟩ : ∃ N, l.length = N := ⟨_, rfl⟩
    rw [hN]
    have hsm := hs.small
    rw [hN] at hsm
    have HS := Lib.hid hs
    have HN := Lib.hid hN
    obtain ⟨M, hM⟩ : ∃ M, mayV n (l.map Vl.c) = M := ⟨_, rfl⟩
    rw [hM]
    have HM := Lib.hid (show mayV n ((l.drop 0).map Vl.c) = M from hM)
    have HIH := Lib.hid ih
    have HDD := Lib.hid hD
    have d0 : 0 ≤ D := by omega
    have d1 : D ≤ 64 := by omega
    clear ih hs hN hM hD
    go_enter Try.func96, Try.ntmps96
    go_wp2_with fail
    go_loopg [9] N (fun q s9 wr => ∃ (i : Nat), s9 = .int .i64 i ∧ Hid (Below w.heap.size w wr) ∧ Hid (mayV n ((l.drop i).map Vl.c) = M) ∧ i ≤ N ∧ N - i ≤ q)
    case atStart => exact ⟨0, rfl, Lib.hid (Below.refl _ _), HM, Nat.zero_le _, by omega⟩
    case round =>
      clear HM
      obtain ⟨i, rfl, hb, hm, hiN, hq⟩ := hrel
      by_cases hi : i < N
      · have gi : decide ((i : Int) < (N : Int)) = true := by simpa using hi
        have gin : decide (i < N) = true := by simpa using hi
        have hil : i < l.length := by rw [HN.out]; exact hi
        have hli : l[i]? = some l[i] := List.getElem?_eq_getElem hil
        have hs2 := HS.out.below hb.out
        have hv := hs2.each i _ hli
        have hm2 := hm.out
        rw [List.drop_eq_getElem_cons hil, List.map_cons] at hm2
        obtain ⟨rfl, hbl⟩ := hs2.sl.lies (by omega)
        obtain ⟨x, hx⟩ : ∃ x, l[i] = x := ⟨_, rfl⟩
        rw [hx] at hli hv hm2
        obtain ⟨t, koa, kb, ko, kcap, kids⟩ := x
        obtain _ | h := h
        · exact hv.elim
        have f0 := hs2.cell hli (j := 0) rfl
        have f1 := hs2.cell hli (j := 1) rfl
        have f2 := hs2.cell hli (j := 2) rfl
        have f3 := hs2.cell hli (j := 3) rfl
        have f4 := hs2.cell hli (j := 4) rfl
        have f5 := hs2.cell hli (j := 5) rfl
        have f6 := hs2.cell hli (j := 6) rfl
        rw [Nat.add_zero] at f0
        rw [Vl.c_mk, mayV_cons] at hm2
        obtain ⟨K, hK⟩ : ∃ K, kids.length = K := ⟨_, rfl⟩
        have hke : (kids.map Vl.c).isEmpty = (K == 0) := by rw [← hK, List.isEmpty_map]; cases kids <;> rfl
        rw [hK] at f6
        have hks := hv.kids
        have h64 := hv.1
        obtain ⟨tk, tt, ⟨tn, td⟩, ti, tid⟩ := t
        obtain ⟨hk64, _, _⟩ := h64
        unfold I64 at hk64
        have hcl := fun w => closer_any tk w
        obtain ⟨C, hC⟩ : ∃ C, closeF tk = C := ⟨_, rfl⟩
        rw [hC] at hcl
        simp only [hC, hke] at hm2
        have HCL := Lib.hid hcl
        have HB := Lib.hid hb.out
        have HMM := Lib.hid hm2
        clear hcl hm2 hm hv hs2 hli hx hC hke
        have hnew := Below.alloc hb.out hb.out.size (.cells #[.int .i64 tk, .string ⟨tt.toArray⟩, .int .i64 tn, .int .i64 td, .bool ti, .bool tid, .slice koa K kcap] 74)
        have HNW := Lib.hid hnew
        have HKS := Lib.hid (hks.below ((Below.refl wr.heap.size wr).alloc (Nat.le_refl _) (.cells #[.int .i64 tk, .string ⟨tt.toArray⟩, .int .i64 tn, .int .i64 td, .bool ti, .bool tid, .slice koa K kcap] 74)))
        clear hnew hks hb
        by_cases hk : 1 ≤ tk ∧ tk ≤ 24
        · have k1 : decide (tk < (1 : Int)) = false := by simp; omega
          have k2 : decide ((24 : Int) < tk) = false := by simp; omega
          by_cases hC0 : C = 0
          · subst hC0
            by_cases hK0 : K = 0
            · have gK : decide ((0 : Int) < (K : Int)) = false := by simp; omega
              have gKn : decide (0 < K) = false := by simp; omega
              have HM2 := Lib.hid (show mayV n ((l.drop (i + 1)).map Vl.c) = M by rw [← HMM.out]; simp [hk.1, hk.2, hK0])
              clear HMM HKS hK0
              go_wp2_with fail
              go_wp2_with fail
              ((with_reducible refine (HCL.out _).mono ?_); rintro e w' ⟨rfl, rfl⟩)
              go_wp2_with fail
              go_roundg (N - (i + 1))
              case measure => omega
              case rel => exact ⟨i + 1, by go_num, HNW, HM2, hi, Nat.le_refl _⟩
            · have gK : decide ((0 : Int) < (K : Int)) = true := by simp; omega
              have gKn : decide (0 < K) = true := by simp; omega
              have HM2 := Lib.hid (show M = false by rw [← HMM.out]; simp [hK0])
              clear HMM HKS hK0
              go_wp2_with fail
              go_wp2_with fail
              ((with_reducible refine (HCL.out _).mono ?_); rintro e w' ⟨rfl, rfl⟩)
              go_wp2_with fail
              go_ret
              exact ⟨ret_bool (by rw [HM2.out]), HNW.out⟩
          · have gC : (C == 0) = false := by simpa using hC0
            by_cases hn0 : n = 0
            · subst hn0
              have gD : (D == 0) = true := by have := HDD.out; simp; omega
              have HM2 := Lib.hid (show M = false by rw [← HMM.out]; simp [hC0])
              clear HMM HKS
              go_wp2_with fail
              go_wp2_with fail
              ((with_reducible refine (HCL.out _).mono ?_); rintro e w' ⟨rfl, rfl⟩)
              go_wp2_with fail
              go_ret
              exact ⟨ret_bool (by rw [HM2.out]), HNW.out⟩
            · obtain ⟨n', rfl⟩ : ∃ n', n = n' + 1 := ⟨n - 1, by omega⟩
              have gD : (D == 0) = false := by have := HDD.out; simp; omega
              have hrec := HIH.out n' (by omega) h kids koa kcap kb ko _ (D - 1) (by have := HDD.out; omega) (by omega) HKS.out
              rw [hK] at hrec
              obtain ⟨R, hR⟩ : ∃ R, mayV n' (kids.map Vl.c) = R := ⟨_, rfl⟩
              rw [hR] at hrec
              have hmm := HMM.out
              simp only [if_neg hC0, hR] at hmm
              have HM2 := Lib.hid hmm
              have HRC := Lib.hid hrec
              clear hrec hR hmm HMM HKS HIH
              go_wp2_with fail
              go_wp2_with fail
              ((with_reducible refine (HCL.out _).mono ?_); rintro e w' ⟨rfl, rfl⟩)
              go_wp2_with fail
              go_wp2_with fail
              ((with_reducible refine (HRC.out).mono ?_); rintro e w' ⟨rfl, hbw⟩)
              obtain ⟨m, rfl⟩ := grow_mk hbw
              clear hbw
              have HNX := Lib.hid (below_grow HNW.out m)
              cases R with
              | true =>
                have HM3 := Lib.hid (show mayV (n' + 1) ((l.drop (i + 1)).map Vl.c) = M by rw [← HM2.out]; simp [hk.1, hk.2])
                clear HM2 HRC HNW
                go_wp2_with fail
                go_roundg (N - (i + 1))
                case measure => omega
                case rel => exact ⟨i + 1, by go_num, HNX, HM3, hi, Nat.le_refl _⟩
              | false =>
                have HM3 := Lib.hid (show M = false by rw [← HM2.out]; simp)
                clear HM2 HRC HNW
                go_wp2_with fail
                go_ret
                exact ⟨ret_bool (by rw [HM3.out]), HNX.out⟩
        · have HM2 := Lib.hid (show M = false by
            rw [← HMM.out]
            have : (decide (1 ≤ tk) && decide (tk ≤ 24)) = false := by rw [Bool.and_eq_false_iff]; simp only [decide_eq_false_iff_not]; omega
            rw [this]; simp)
          have ways : decide (tk < (1 : Int)) = true ∨ decide (tk < (1 : Int)) = false ∧ decide ((24 : Int) < tk) = true := by
            by_cases h1 : tk < 1
            · exact Or.inl (by simpa using h1)
            · exact Or.inr ⟨by simpa using h1, by simp; omega⟩
          clear HMM HKS hk
          rcases ways with k1 | ⟨k1, k2⟩
          all_goals
            go_wp2_with fail
            go_ret
            exact ⟨ret_bool (by rw [HM2.out]), HNW.out⟩
      · obtain rfl : i = N := by omega
        have gi : decide ((i : Int) < (i : Int)) = false := by simp
        have gin : decide (i < i) = false := by simp
        have hm2 := hm.out
        rw [List.drop_eq_nil_of_le (by rw [HN.out]; exact Nat.le_refl _), List.map_nil, mayV_nil] at hm2
        subst hm2
        clear hm HIH
        go_wp2_with fail
        go_ret
        exact ⟨rfl, hb.out⟩

set_option maxRecDepth 20000 in
set_option maxHeartbeats 8000000 in
theorem rmayv_any : ∀ (n h : Nat) (l : List Vl) (oa : Option Addr) (cap b o : Nat) (w : World) (D : Int), D = 64 - (n : Int) → n ≤ 64 → VsIn w h oa cap b o l →
    Calls Try.prog 110 #[.slice oa l.length cap, .int .i64 D] w fun e w' => e = .returned (.bool (mayV n (l.map Vl.c))) ∧ Below w.heap.size w w' := by
  intro n
  induction n using Nat.strongRecOn with
  | _ n ih =>
    intro h l oa cap b o w D hD hn hs
    obtain ⟨N, hN⟩ : ∃ N, l.length = N := ⟨_, rfl⟩
    rw [hN]
    have hsm := hs.small
    rw [hN] at hsm
    have HS := Lib.hid hs
    have HN := Lib.hid hN
    obtain ⟨M, hM⟩ : ∃ M, mayV n (l.map Vl.c) = M := ⟨_, rfl⟩
    rw [hM]
    have HM := Lib.hid (show mayV n ((l.drop 0).map Vl.c) = M from hM)
    have HIH := Lib.hid ih
    have HDD := Lib.hid hD
    have d0 : 0 ≤ D := by omega
    have d1 : D ≤ 64 := by omega
    clear ih hs hN hM hD
    go_enter Try.func110, Try.ntmps110
    go_wp2_with fail
    go_loopg [9] N (fun q s9 wr => ∃ (i : Nat), s9 = .int .i64 i ∧ Hid (Below w.heap.size w wr) ∧ Hid (mayV n ((l.drop i).map Vl.c) = M) ∧ i ≤ N ∧ N - i ≤ q)
    case atStart => exact ⟨0, rfl, Lib.hid (Below.refl _ _), HM, Nat.zero_le _, by omega⟩
    case round =>
      clear HM
      obtain ⟨i, rfl, hb, hm, hiN, hq⟩ := hrel
      by_cases hi : i < N
      · have gi : decide ((i : Int) < (N : Int)) = true := by simpa using hi
        have gin : decide (i < N) = true := by simpa using hi
        have hil : i < l.length := by rw [HN.out]; exact hi
        have hli : l[i]? = some l[i] := List.getElem?_eq_getElem hil
        have hs2 := HS.out.below hb.out
        have hv := hs2.each i _ hli
        have hm2 := hm.out
        rw [List.drop_eq_getElem_cons hil, List.map_cons] at hm2
        obtain ⟨rfl, hbl⟩ := hs2.sl.lies (by omega)
        obtain ⟨x, hx⟩ : ∃ x, l[i] = x := ⟨_, rfl⟩
        rw [hx] at hli hv hm2
        obtain ⟨t, koa, kb, ko, kcap, kids⟩ := x
        obtain _ | h := h
        · exact hv.elim
        have f0 := hs2.cell hli (j := 0) rfl
        have f1 := hs2.cell hli (j := 1) rfl
        have f2 := hs2.cell hli (j := 2) rfl
        have f3 := hs2.cell hli (j := 3) rfl
        have f4 := hs2.cell hli (j := 4) rfl
        have f5 := hs2.cell hli (j := 5) rfl
        have f6 := hs2.cell hli (j := 6) rfl
        rw [Nat.add_zero] at f0
        rw [Vl.c_mk, mayV_cons] at hm2
        obtain ⟨K, hK⟩ : ∃ K, kids.length = K := ⟨_, rfl⟩
        have hke : (kids.map Vl.c).isEmpty = (K == 0) := by rw [← hK, List.isEmpty_map]; cases kids <;> rfl
        rw [hK] at f6
        have hks := hv.kids
        have h64 := hv.1
        obtain ⟨tk, tt, ⟨tn, td⟩, ti, tid⟩ := t
        obtain ⟨hk64, _, _⟩ := h64
        unfold I64 at hk64
        have hcl := fun w => rcloser_any tk w
        obtain ⟨C, hC⟩ : ∃ C, closeF tk = C := ⟨_, rfl⟩
        rw [hC] at hcl
        simp only [hC, hke] at hm2
        have HCL := Lib.hid hcl
        have HB := Lib.hid hb.out
        have HMM := Lib.hid hm2
        clear hcl hm2 hm hv hs2 hli hx hC hke
        have hnew := Below.alloc hb.out hb.out.size (.cells #[.int .i64 tk, .string ⟨tt.toArray⟩, .int .i64 tn, .int .i64 td, .bool ti, .bool tid, .slice koa K kcap] 74)
        have HNW := Lib.hid hnew
        have HKS := Lib.hid (hks.below ((Below.refl wr.heap.size wr).alloc (Nat.le_refl _) (.cells #[.int .i64 tk, .string ⟨tt.toArray⟩, .int .i64 tn, .int .i64 td, .bool ti, .bool tid, .slice koa K kcap] 74)))
        clear hnew hks hb
        by_cases hk : 1 ≤ tk ∧ tk ≤ 24
        · have k1 : decide (tk < (1 : Int)) = false := by simp; omega
          have k2 : decide ((24 : Int) < tk) = false := by simp; omega
          by_cases hC0 : C = 0
          · subst hC0
            by_cases hK0 : K = 0
            · have gK : decide ((0 : Int) < (K : Int)) = false := by simp; omega
              have gKn : decide (0 < K) = false := by simp; omega
              have HM2 := Lib.hid (show mayV n ((l.drop (i + 1)).map Vl.c) = M by rw [← HMM.out]; simp [hk.1, hk.2, hK0])
              clear HMM HKS hK0
              go_wp2_with fail
              go_wp2_with fail
              ((with_reducible refine (HCL.out _).mono ?_); rintro e w' ⟨rfl, rfl⟩)
              go_wp2_with fail
              go_roundg (N - (i + 1))
              case measure => omega
              case rel => exact ⟨i + 1, by go_num, HNW, HM2, hi, Nat.le_refl _⟩
            · have gK : decide ((0 : Int) < (K : Int)) = true := by simp; omega
              have gKn : decide (0 < K) = true := by simp; omega
              have HM2 := Lib.hid (show M = false by rw [← HMM.out]; simp [hK0])
              clear HMM HKS hK0
              go_wp2_with fail
              go_wp2_with fail
              ((with_reducible refine (HCL.out _).mono ?_); rintro e w' ⟨rfl, rfl⟩)
              go_wp2_with fail
              go_ret
              exact ⟨ret_bool (by rw [HM2.out]), HNW.out⟩
          · have gC : (C == 0) = false := by simpa using hC0
            by_cases hn0 : n = 0
            · subst hn0
              have gD : decide ((64 : Int) ≤ D) = true := by have := HDD.out; simp; omega
              have HM2 := Lib.hid (show M = false by rw [← HMM.out]; simp [hC0])
              clear HMM HKS
              go_wp2_with fail
              go_wp2_with fail
              ((with_reducible refine (HCL.out _).mono ?_); rintro e w' ⟨rfl, rfl⟩)
              go_wp2_with fail
              go_ret
              exact ⟨ret_bool (by rw [HM2.out]), HNW.out⟩
            · obtain ⟨n', rfl⟩ : ∃ n', n = n' + 1 := ⟨n - 1, by omega⟩
              have gD : decide ((64 : Int) ≤ D) = false := by have := HDD.out; simp; omega
              have hrec := HIH.out n' (by omega) h kids koa kcap kb ko _ (D + 1) (by have := HDD.out; omega) (by omega) HKS.out
              rw [hK] at hrec
              obtain ⟨R, hR⟩ : ∃ R, mayV n' (kids.map Vl.c) = R := ⟨_, rfl⟩
              rw [hR] at hrec
              have hmm := HMM.out
              simp only [if_neg hC0, hR] at hmm
              have HM2 := Lib.hid hmm
              have HRC := Lib.hid hrec
              clear hrec hR hmm HMM HKS HIH
              go_wp2_with fail
              go_wp2_with fail
              ((with_reducible refine (HCL.out _).mono ?_); rintro e w' ⟨rfl, rfl⟩)
              go_wp2_with fail
              go_wp2_with fail
              ((with_reducible refine (HRC.out).mono ?_); rintro e w' ⟨rfl, hbw⟩)
              obtain ⟨m, rfl⟩ := grow_mk hbw
              clear hbw
              have HNX := Lib.hid (below_grow HNW.out m)
              cases R with
              | true =>
                have HM3 := Lib.hid (show mayV (n' + 1) ((l.drop (i + 1)).map Vl.c) = M by rw [← HM2.out]; simp [hk.1, hk.2])
                clear HM2 HRC HNW
                go_wp2_with fail
                go_roundg (N - (i + 1))
                case measure => omega
                case rel => exact ⟨i + 1, by go_num, HNX, HM3, hi, Nat.le_refl _⟩
              | false =>
                have HM3 := Lib.hid (show M = false by rw [← HM2.out]; simp)
                clear HM2 HRC HNW
                go_wp2_with fail
                go_ret
                exact ⟨ret_bool (by rw [HM3.out]), HNX.out⟩
        · have HM2 := Lib.hid (show M = false by
            rw [← HMM.out]
            have : (decide (1 ≤ tk) && decide (tk ≤ 24)) = false := by rw [Bool.and_eq_false_iff]; simp only [decide_eq_false_iff_not]; omega
            rw [this]; simp)
          have ways : decide (tk < (1 : Int)) = true ∨ decide (tk < (1 : Int)) = false ∧ decide ((24 : Int) < tk) = true := by
            by_cases h1 : tk < 1
            · exact Or.inl (by simpa using h1)
            · exact Or.inr ⟨by simpa using h1, by simp; omega⟩
          clear HMM HKS hk
          rcases ways with k1 | ⟨k1, k2⟩
          all_goals
            go_wp2_with fail
            go_ret
            exact ⟨ret_bool (by rw [HM2.out]), HNW.out⟩
      · obtain rfl : i = N := by omega
        have gi : decide ((i : Int) < (i : Int)) = false := by simp
        have gin : decide (i < i) = false := by simp
        have hm2 := hm.out
        rw [List.drop_eq_nil_of_le (by rw [HN.out]; exact Nat.le_refl _), List.map_nil, mayV_nil] at hm2
        subst hm2
        clear hm HIH
        go_wp2_with fail
        go_ret
        exact ⟨rfl, hb.out⟩

end Go.Proofs.Ytgjhaanpkfheeaa

namespace Go.Proofs.Ytgjhaanpkfheeaa
set_option linter.unusedVariables false
set_option linter.unusedSimpArgs false
open Go.RowKit

set_option maxHeartbeats 1000000 in
theorem mayv5_any (h : Nat) (l : List Vl) (oa : Option Addr) (cap b o : Nat) (w : World) (hs : VsIn w h oa cap b o l) :
    Calls Try.prog 60 #[.slice oa l.length cap] w fun e w' => e = .returned (.bool (mayV 64 (l.map Vl.c))) ∧ Below w.heap.size w w' := by
  have HM := Lib.hid (mayv_any 64 h l oa cap b o w 64 rfl (Nat.le_refl _) hs)
  clear hs
  go_enter Try.func60, Try.ntmps60
  go_wp2_with fail
  ((with_reducible refine (HM.out).mono ?_); rintro e w' ⟨rfl, hbw⟩)
  obtain ⟨m, rfl⟩ := grow_mk hbw
  clear hbw
  go_wp2_with fail
  go_ret
  exact ⟨rfl, grow_below m⟩
set_option maxHeartbeats 1000000 in
theorem mayvr_any (h : Nat) (l : List Vl) (oa : Option Addr) (cap b o : Nat) (w : World) (hs : VsIn w h oa cap b o l) :
    Calls Try.prog 90 #[.slice oa l.length cap] w fun e w' => e = .returned (.bool (mayV 64 (l.map Vl.c))) ∧ Below w.heap.size w w' := by
  have HM := Lib.hid (rmayv_any 64 h l oa cap b o w 0 rfl (Nat.le_refl _) hs)
  clear hs
  go_enter Try.func90, Try.ntmps90
  go_wp2_with fail
  ((with_reducible refine (HM.out).mono ?_); rintro e w' ⟨rfl, hbw⟩)
  obtain ⟨m, rfl⟩ := grow_mk hbw
  clear hbw
  go_wp2_with fail
  go_ret
  exact ⟨rfl, grow_below m⟩

end Go.Proofs.Ytgjhaanpkfheeaa

namespace Go.Proofs.Ytgjhaanpkfheeaa
set_option linter.unusedVariables false
set_option linter.unusedSimpArgs false
open Go.RowKit

/-- a part of values, as a slice -/
theorem VsIn.part {w : World} {h : Nat} {oa : Option Addr} {cap b o : Nat} {l : List Vl} (hs : VsIn w h oa cap b o l) {a c : Nat} (hac : a ≤ c) (hc : c ≤ l.length) :
    VsIn w h (if cap = a then oa else oa.map (·.add (a * 7))) (cap - a) b (o + a * 7) ((l.take c).drop a) := by
  have hlen : ((l.take c).drop a).length = c - a := by rw [List.length_drop, List.length_take]; omega
  have hat : ∀ i, ((l.take c).drop a)[i]? = if a + i < c then l[a + i]? else none := fun i => by rw [List.getElem?_drop, List.getElem?_take]
  have h1 := hs.small
  have h2 := hs.sl.le
  have h3 := hs.sl.max
  refine ⟨by omega, ⟨by rw [flat_length vcells_length], by omega, by omega, fun hp => ?_, fun j v hv => ?_⟩, fun i x hi => ?_⟩
  · obtain ⟨hx, hb⟩ := hs.sl.lies (by omega)
    rw [if_neg (by omega), hx]
    exact ⟨by rw [Option.map_some, Addr.add_lit], hb⟩
  · obtain ⟨i, x, k, g1, g2, rfl⟩ := flat_split vcells_length (by omega) _ _ _ hv
    rw [hat] at g1
    split at g1
    · have := hs.cell g1 g2
      rw [Nat.add_mul] at this
      rw [show o + a * 7 + (i * 7 + k) = o + (a * 7 + i * 7) + k by omega]
      exact this
    · cases g1
  · rw [hat] at hi
    split at hi
    · exact hs.each _ _ hi
    · cases hi

end Go.Proofs.Ytgjhaanpkfheeaa

namespace Go.Proofs.Ytgjhaanpkfheeaa
set_option linter.unusedVariables false
set_option linter.unusedSimpArgs false
open Go.ChangeShapes Go.WideShapes Go.ChangeAt Go.RowKit Go.Deep

section
variable {H : Type} {enc : TypeId × Value → H} {w : World} {base : Nat} {spare : Nat → Bool} {held : Bool}

end

theorem reach_le {n : Nat} (h : n ≤ reachBytes) : n ≤ 140737488355328 := Nat.le_trans h (by decide)
theorem reach_of {H : Type} {P : Program} {ts : List TypeId} {ds : List (DataW H)} (h : (DataW.weightsEach P ts ds).all (· ≤ reachBytes) = true) {j : Nat} {t : TypeId} {d : DataW H} (ht : ts[j]? = some t) (hd : ds[j]? = some d) : ∀ n ∈ d.weights P t, n ≤ 140737488355328 := fun n hn =>
  reach_le (by simpa using List.all_eq_true.1 h n (DataW.weights_mem_each ht hd n hn))

end Go.Proofs.Ytgjhaanpkfheeaa
