/- Of my texts: ValT, ValA, ValB, ValC, ValD, ValE, Safe, Copied, Stack, Tok64, OpenV. -/
import Derived.Test.YtplnhjmomomphaaGreatDoorM05
import Derived.Test.YtplnhjmomomphaaGreatDoorM06
import Derived.Test.YtplnhjmomomphaaGreatDoorM07
import Derived.Test.YtplnhjmomomphaaGreatDoorM15
import Derived.Test.YtplnhjmomomphaaGreatDoorM16
import Derived.Test.YtplnhjmomomphaaGreatDoorM21
import Derived.SizedLaws
namespace Go.Proofs.YtplnhjmomomphaaGreatDoor
set_option linter.unusedVariables false
set_option linter.unusedSimpArgs false
open Go.ChangeShapes Go.WideShapes Go.ChangeAt Go.RowKit Go.Deep
/-- a component value, with the place of its kids -/
inductive Vl where
 | mk (t : Tk) (oa : Option Addr) (b o cap : Nat) (kids : List Vl)
instance : Inhabited Vl := ⟨.mk ⟨0, [], (0, 0), false, false⟩ none 0 0 0 []⟩
def vcells : Vl → List Value
 | .mk t oa _ _ cap kids => tkcells t ++ [.slice oa kids.length cap]
def vv (v : Vl) : Value := .agg (vcells v).toArray
theorem vcells_length (v : Vl) : (vcells v).length = 7 := by cases v; rfl
mutual
def Vl.c : Vl → Vt
 | .mk t _ _ _ _ kids => .mk t (Vl.cs kids)
def Vl.cs : List Vl → List Vt
 | [] => []
 | x :: r => x.c :: Vl.cs r
end
theorem Vl.cs_map : ∀ l : List Vl, Vl.cs l = l.map Vl.c
 | [] => rfl
 | x :: r => by rw [Vl.cs, Vl.cs_map r]; rfl
theorem Vl.c_mk (t : Tk) (oa : Option Addr) (b o cap : Nat) (kids : List Vl) : (Vl.mk t oa b o cap kids).c = .mk t (kids.map Vl.c) := by
 rw [Vl.c, Vl.cs_map]
/-- a token whose numbers are numbers -/
def Tk64 (t : Tk) : Prop := I64 t.kind ∧ Is64 t.num ∧ t.text.length ≤ 9223372036854775807
/-- the value lies in the world; its height is below h -/
def VlIn (w : World) : Nat → Vl → Prop
 | 0, _ => False
 | h + 1, .mk t oa b o cap kids => Tk64 t ∧ kids.length * 72 ≤ 140737488355328 ∧ Sl w oa kids.length cap b o 7 (kids.flatMap vcells) ∧ ∀ (i : Nat) (x : Vl), kids[i]? = some x → VlIn w h x
/-- values lie behind a slice -/
structure VsIn (w : World) (h : Nat) (oa : Option Addr) (cap b o : Nat) (l : List Vl) : Prop where
 small : l.length * 72 ≤ 140737488355328
 sl : Sl w oa l.length cap b o 7 (l.flatMap vcells)
 each : ∀ (i : Nat) (x : Vl), l[i]? = some x → VlIn w h x
theorem VlIn.below : ∀ (h : Nat) {v : Vl} {w w' : World}, VlIn w h v → Below w.heap.size w w' → VlIn w' h v
 | 0, _, _, _, hx, _ => hx.elim
 | h + 1, .mk t oa b o cap kids, w, w', hx, hb => ⟨hx.1, hx.2.1, hx.2.2.1.below hb, fun i x hi => VlIn.below h (hx.2.2.2 i x hi) hb⟩
theorem VlIn.mono : ∀ (h h' : Nat) {w : World} {v : Vl}, h ≤ h' → VlIn w h v → VlIn w h' v
 | 0, _, _, _, _, hx => hx.elim
 | h + 1, 0, _, _, hl, _ => by omega
 | h + 1, h' + 1, w, .mk t oa b o cap kids, hl, hx => ⟨hx.1, hx.2.1, hx.2.2.1, fun i x hi => VlIn.mono h h' (by omega) (hx.2.2.2 i x hi)⟩
theorem VsIn.below {w w' : World} {h : Nat} {oa : Option Addr} {cap b o : Nat} {l : List Vl} (hs : VsIn w h oa cap b o l) (hb : Below w.heap.size w w') : VsIn w' h oa cap b o l :=
 ⟨hs.small, hs.sl.below hb, fun i x hi => (hs.each i x hi).below h hb⟩
theorem VsIn.mono {w : World} {h h' : Nat} {oa : Option Addr} {cap b o : Nat} {l : List Vl} (hs : VsIn w h oa cap b o l) (hl : h ≤ h') : VsIn w h' oa cap b o l :=
 ⟨hs.small, hs.sl, fun i x hi => (hs.each i x hi).mono h h' hl⟩
theorem VlIn.kids {w : World} {h : Nat} {t : Tk} {oa : Option Addr} {b o cap : Nat} {kids : List Vl} (hx : VlIn w (h + 1) (.mk t oa b o cap kids)) : VsIn w h oa cap b o kids := ⟨hx.2.1, hx.2.2.1, hx.2.2.2⟩
/-- the cells of one among things of so many cells -/
theorem flat_at {α : Type} {f : α → List Value} {sz : Nat} (hf : ∀ x, (f x).length = sz) : ∀ (l : List α) (i : Nat) (x : α) (j : Nat) (v : Value), l[i]? = some x → (f x)[j]? = some v → (l.flatMap f)[i * sz + j]? = some v
 | [], i, x, j, v, h, _ => by simp at h
 | y :: l, 0, x, j, v, h, hv => by
   obtain rfl := Option.some.inj h
   rw [List.flatMap_cons, Nat.zero_mul, Nat.zero_add, List.getElem?_append_left (List.getElem?_eq_some_iff.1 hv).1]
   exact hv
 | y :: l, i + 1, x, j, v, h, hv => by
   have ih := flat_at hf l i x j v (by simpa using h) hv
   have := hf y
   rw [List.flatMap_cons, List.getElem?_append_right (by rw [this, Nat.succ_mul]; omega), this, show (i + 1) * sz + j - sz = i * sz + j by rw [Nat.succ_mul]; omega]
   exact ih
theorem flat_split {α : Type} {f : α → List Value} {sz : Nat} (hf : ∀ x, (f x).length = sz) (hz : 0 < sz) : ∀ (l : List α) (k : Nat) (v : Value), (l.flatMap f)[k]? = some v → ∃ i x j, l[i]? = some x ∧ (f x)[j]? = some v ∧ k = i * sz + j
 | [], k, v, h => by simp at h
 | y :: l, k, v, h => by
   have hy := hf y
   rw [List.flatMap_cons] at h
   rcases Nat.lt_or_ge k sz with hk | hk
   · rw [List.getElem?_append_left (by omega)] at h
     exact ⟨0, y, k, rfl, h, by omega⟩
   · rw [List.getElem?_append_right (by omega), hy] at h
     obtain ⟨i, x, j, h1, h2, h3⟩ := flat_split hf hz l (k - sz) v h
     exact ⟨i + 1, x, j, by simpa using h1, h2, by rw [Nat.succ_mul]; omega⟩
theorem flat_length {α : Type} {f : α → List Value} {sz : Nat} (hf : ∀ x, (f x).length = sz) : ∀ l : List α, (l.flatMap f).length = l.length * sz
 | [] => by simp
 | y :: l => by rw [List.flatMap_cons, List.length_append, hf, flat_length hf l, List.length_cons, Nat.succ_mul]; omega
theorem VsIn.cell {w : World} {h : Nat} {oa : Option Addr} {cap b o : Nat} {l : List Vl} (hs : VsIn w h oa cap b o l) {i : Nat} {x : Vl} (hi : l[i]? = some x) {j : Nat} {v : Value} (hv : (vcells x)[j]? = some v) : w.cell? ⟨b, o + i * 7 + j, none⟩ = some v := by
 rw [show o + i * 7 + j = o + (i * 7 + j) by omega]
 exact hs.sl.cell _ _ (flat_at vcells_length l i x j v hi hv)
theorem cellsToken : Tryz.prog.cellsOf 42 = 6 := by kernel_rfl
theorem cellsValue : Tryz.prog.cellsOf 44 = 7 := by kernel_rfl
theorem cellsValues : Tryz.prog.cellsOf 22 = 1 := by kernel_rfl
theorem bytesValue : Tryz.prog.bytesOf 44 = 72 := by kernel_rfl
theorem cellsStr : Tryz.prog.cellsOf 9 = 1 := by kernel_rfl
theorem cellsBl : Tryz.prog.cellsOf 4 = 1 := by kernel_rfl
theorem six {α : Type} {l : List α} (h : l.length = 6) : ∃ a b c d e f, l = [a, b, c, d, e, f] := by
 match l, h with
 | [a, b, c, d, e, f], _ => exact ⟨a, b, c, d, e, f, rfl⟩
theorem seven {α : Type} {l : List α} (h : l.length = 7) : ∃ a b c d e f g, l = [a, b, c, d, e, f, g] := by
 match l, h with
 | [a, b, c, d, e, f, g], _ => exact ⟨a, b, c, d, e, f, g, rfl⟩
section
variable {H : Type} {enc : TypeId × Value → H} {w : World} {base : Nat} {spare : Nat → Bool} {held : Bool}
set_option maxRecDepth 100000 in
theorem open_tk (fuel : Nat) (cs : List Value) (x : DataW H × List MemPlace) (h : DataW.trod enc Tryz.prog w base spare held fuel 42 cs = some x) : ∃ t : Tk, cs = tkcells t ∧ Tk64 t := by
 obtain ⟨xs, n, rfl, rfl, hl, hlen, hf⟩ := DataW.trod_struct Tryz.underlying42 h
 obtain ⟨y0, y1, y2, y3, y4, rfl⟩ := five hlen
 obtain ⟨c0, c1, c2, c3, c4, c5, rfl⟩ := six (hl.trans cellsToken)
 have g0 := hf 0 _ rfl
 have g1 := hf 1 _ rfl
 have g2 := hf 2 _ rfl
 have g3 := hf 3 _ rfl
 have g4 := hf 4 _ rfl
 simp only [List.getElem_toArray, List.getElem_cons_zero, List.getElem_cons_succ, cellsInt, cellsRat, cellsStr, cellsBl, List.drop_zero, List.drop_succ_cons, List.take_succ_cons, List.take_zero, List.getElem?_cons_zero, List.getElem?_cons_succ] at g0 g1 g2 g3 g4
 obtain ⟨k, e0, rfl, w0⟩ := DataW.trod_int Tryz.underlying3 g0
 obtain ⟨s, e1, rfl, ws⟩ := DataW.trod_string Tryz.underlying9 g1
 obtain ⟨ys, m, rfl, rfl, _, hlen2, hf2⟩ := DataW.trod_struct Tryz.underlying24 g2
 obtain ⟨z0, z1, rfl⟩ := two hlen2
 have r0 := hf2 0 _ rfl
 have r1 := hf2 1 _ rfl
 simp only [List.getElem_toArray, List.getElem_cons_zero, List.getElem_cons_succ, cellsInt64, List.drop_zero, List.drop_succ_cons, List.take_succ_cons, List.take_zero, List.getElem?_cons_zero, List.getElem?_cons_succ] at r0 r1
 obtain ⟨nn, en, rfl, wn⟩ := DataW.trod_int Tryz.underlying2 r0
 obtain ⟨dd, ed, rfl, wd⟩ := DataW.trod_int Tryz.underlying2 r1
 obtain ⟨b1, e3, rfl⟩ := DataW.trod_bool Tryz.underlying4 g3
 obtain ⟨b2, e4, rfl⟩ := DataW.trod_bool Tryz.underlying4 g4
 simp only [List.cons.injEq, and_true] at e0 e1 en ed e3 e4
 subst e0 e1 en ed e3 e4
 obtain ⟨⟨sl⟩⟩ := s
 exact ⟨⟨k, sl, (nn, dd), b1, b2⟩, rfl, int_of_wf w0, is64_of_wf wn wd, ws⟩
end
end Go.Proofs.YtplnhjmomomphaaGreatDoor

namespace Go.Proofs.YtplnhjmomomphaaGreatDoor
set_option linter.unusedVariables false
set_option linter.unusedSimpArgs false
open Go.RowKit
theorem mayV_nil (n : Nat) : mayV n [] = true := by rw [mayV]
theorem mayV_cons (n : Nat) (t : Tk) (k r : List Vt) : mayV n (.mk t k :: r) = (decide (1 ≤ t.kind) && decide (t.kind ≤ 24) && (if closeF t.kind = 0 then k.isEmpty else match n with
 | 0 => false
 | n + 1 => mayV n k) && mayV n r) := by
 rw [mayV.eq_def]
 cases n <;> rfl
set_option maxHeartbeats 1000000 in
theorem closer_any (k : Int) (w : World) : Calls Tryz.prog 42 #[.int .i64 k] w fun e w' => e = .returned (.int .i64 (closeF k)) ∧ w' = w := by
 have ways : k ≤ 1 ∨ k = 2 ∨ (3 ≤ k ∧ k ≤ 18) ∨ k = 19 ∨ k = 20 ∨ k = 21 ∨ k = 22 ∨ k = 23 ∨ 24 ≤ k := by omega
 rcases ways with h | rfl | h | rfl | rfl | rfl | rfl | rfl | h
 · -- None..1
   have g0 : ((k == 2)) = false := by simp; omega
   have g1 : ((k == 21)) = false := by simp; omega
   have g2 : ((k == 19)) = false := by simp; omega
   have g3 : ((k == 23)) = false := by simp; omega
   have hv : closeF k = 0 := by unfold closeF; rw [if_neg (by omega), if_neg (by omega), if_neg (by omega)]
   have HV := Lib.hid hv
   clear hv
   go_enter Tryz.func42, Tryz.ntmps42
   go_wp2_with fail
   go_ret
   exact ⟨by rw [HV.out]; rfl, rfl⟩
 · -- 2..2
   have hv : closeF (2) = 22 := rfl
   have HV := Lib.hid hv
   clear hv
   go_enter Tryz.func42, Tryz.ntmps42
   go_wp2_with fail
   go_ret
   exact ⟨by rw [HV.out]; rfl, rfl⟩
 · -- 3..18
   have g0 : ((k == 2)) = false := by simp; omega
   have g1 : ((k == 21)) = false := by simp; omega
   have g2 : ((k == 19)) = false := by simp; omega
   have g3 : ((k == 23)) = false := by simp; omega
   have hv : closeF k = 0 := by unfold closeF; rw [if_neg (by omega), if_neg (by omega), if_neg (by omega)]
   have HV := Lib.hid hv
   clear hv
   go_enter Tryz.func42, Tryz.ntmps42
   go_wp2_with fail
   go_ret
   exact ⟨by rw [HV.out]; rfl, rfl⟩
 · -- 19..19
   have hv : closeF (19) = 20 := rfl
   have HV := Lib.hid hv
   clear hv
   go_enter Tryz.func42, Tryz.ntmps42
   go_wp2_with fail
   go_ret
   exact ⟨by rw [HV.out]; rfl, rfl⟩
 · -- 20..20
   have hv : closeF (20) = 0 := rfl
   have HV := Lib.hid hv
   clear hv
   go_enter Tryz.func42, Tryz.ntmps42
   go_wp2_with fail
   go_ret
   exact ⟨by rw [HV.out]; rfl, rfl⟩
 · -- 21..21
   have hv : closeF (21) = 22 := rfl
   have HV := Lib.hid hv
   clear hv
   go_enter Tryz.func42, Tryz.ntmps42
   go_wp2_with fail
   go_ret
   exact ⟨by rw [HV.out]; rfl, rfl⟩
 · -- 22..22
   have hv : closeF (22) = 0 := rfl
   have HV := Lib.hid hv
   clear hv
   go_enter Tryz.func42, Tryz.ntmps42
   go_wp2_with fail
   go_ret
   exact ⟨by rw [HV.out]; rfl, rfl⟩
 · -- 23..23
   have hv : closeF (23) = 24 := rfl
   have HV := Lib.hid hv
   clear hv
   go_enter Tryz.func42, Tryz.ntmps42
   go_wp2_with fail
   go_ret
   exact ⟨by rw [HV.out]; rfl, rfl⟩
 · -- 24..None
   have g0 : ((k == 2)) = false := by simp; omega
   have g1 : ((k == 21)) = false := by simp; omega
   have g2 : ((k == 19)) = false := by simp; omega
   have g3 : ((k == 23)) = false := by simp; omega
   have hv : closeF k = 0 := by unfold closeF; rw [if_neg (by omega), if_neg (by omega), if_neg (by omega)]
   have HV := Lib.hid hv
   clear hv
   go_enter Tryz.func42, Tryz.ntmps42
   go_wp2_with fail
   go_ret
   exact ⟨by rw [HV.out]; rfl, rfl⟩
set_option maxHeartbeats 1000000 in
theorem rcloser_any (k : Int) (w : World) : Calls Tryz.prog 50 #[.int .i64 k] w fun e w' => e = .returned (.int .i64 (closeF k)) ∧ w' = w := by
 have ways : k ≤ 1 ∨ k = 2 ∨ (3 ≤ k ∧ k ≤ 18) ∨ k = 19 ∨ k = 20 ∨ k = 21 ∨ k = 22 ∨ k = 23 ∨ 24 ≤ k := by omega
 rcases ways with h | rfl | h | rfl | rfl | rfl | rfl | rfl | h
 · -- None..1
   have g0 : ((k == 2)) = false := by simp; omega
   have g1 : ((k == 21)) = false := by simp; omega
   have g2 : ((k == 19)) = false := by simp; omega
   have g3 : ((k == 23)) = false := by simp; omega
   have hv : closeF k = 0 := by unfold closeF; rw [if_neg (by omega), if_neg (by omega), if_neg (by omega)]
   have HV := Lib.hid hv
   clear hv
   go_enter Tryz.func50, Tryz.ntmps50
   go_wp2_with fail
   go_ret
   exact ⟨by rw [HV.out]; rfl, rfl⟩
 · -- 2..2
   have hv : closeF (2) = 22 := rfl
   have HV := Lib.hid hv
   clear hv
   go_enter Tryz.func50, Tryz.ntmps50
   go_wp2_with fail
   go_ret
   exact ⟨by rw [HV.out]; rfl, rfl⟩
 · -- 3..18
   have g0 : ((k == 2)) = false := by simp; omega
   have g1 : ((k == 21)) = false := by simp; omega
   have g2 : ((k == 19)) = false := by simp; omega
   have g3 : ((k == 23)) = false := by simp; omega
   have hv : closeF k = 0 := by unfold closeF; rw [if_neg (by omega), if_neg (by omega), if_neg (by omega)]
   have HV := Lib.hid hv
   clear hv
   go_enter Tryz.func50, Tryz.ntmps50
   go_wp2_with fail
   go_ret
   exact ⟨by rw [HV.out]; rfl, rfl⟩
 · -- 19..19
   have hv : closeF (19) = 20 := rfl
   have HV := Lib.hid hv
   clear hv
   go_enter Tryz.func50, Tryz.ntmps50
   go_wp2_with fail
   go_ret
   exact ⟨by rw [HV.out]; rfl, rfl⟩
 · -- 20..20
   have hv : closeF (20) = 0 := rfl
   have HV := Lib.hid hv
   clear hv
   go_enter Tryz.func50, Tryz.ntmps50
   go_wp2_with fail
   go_ret
   exact ⟨by rw [HV.out]; rfl, rfl⟩
 · -- 21..21
   have hv : closeF (21) = 22 := rfl
   have HV := Lib.hid hv
   clear hv
   go_enter Tryz.func50, Tryz.ntmps50
   go_wp2_with fail
   go_ret
   exact ⟨by rw [HV.out]; rfl, rfl⟩
 · -- 22..22
   have hv : closeF (22) = 0 := rfl
   have HV := Lib.hid hv
   clear hv
   go_enter Tryz.func50, Tryz.ntmps50
   go_wp2_with fail
   go_ret
   exact ⟨by rw [HV.out]; rfl, rfl⟩
 · -- 23..23
   have hv : closeF (23) = 24 := rfl
   have HV := Lib.hid hv
   clear hv
   go_enter Tryz.func50, Tryz.ntmps50
   go_wp2_with fail
   go_ret
   exact ⟨by rw [HV.out]; rfl, rfl⟩
 · -- 24..None
   have g0 : ((k == 2)) = false := by simp; omega
   have g1 : ((k == 21)) = false := by simp; omega
   have g2 : ((k == 19)) = false := by simp; omega
   have g3 : ((k == 23)) = false := by simp; omega
   have hv : closeF k = 0 := by unfold closeF; rw [if_neg (by omega), if_neg (by omega), if_neg (by omega)]
   have HV := Lib.hid hv
   clear hv
   go_enter Tryz.func50, Tryz.ntmps50
   go_wp2_with fail
   go_ret
   exact ⟨by rw [HV.out]; rfl, rfl⟩
set_option maxRecDepth 20000 in
set_option maxHeartbeats 8000000 in
theorem rmayv_any : ∀ (n h : Nat) (l : List Vl) (oa : Option Addr) (cap b o : Nat) (w : World) (D : Int), D = 64 - (n : Int) → n ≤ 64 → VsIn w h oa cap b o l →
 Calls Tryz.prog 29 #[.slice oa l.length cap, .int .i64 D] w fun e w' => e = .returned (.bool (mayV n (l.map Vl.c))) ∧ Below w.heap.size w w' := by
 intro n
 induction n using Nat.strongRecOn with
 | _ n ih =>
   intro h l oa cap b o w D hD hn hs
   obtain ⟨N, hN⟩ : ∃ N, l.length = N := ⟨_, rfl⟩
   rw [hN]
   have hsm := hs.small
   rw [hN] at hsm
   have HS := Lib.hid hs
   have HN := Lib.hid hN
   obtain ⟨M, hM⟩ : ∃ M, mayV n (l.map Vl.c) = M := ⟨_, rfl⟩
   rw [hM]
   have HM := Lib.hid (show mayV n ((l.drop 0).map Vl.c) = M from hM)
   have HIH := Lib.hid ih
   have HDD := Lib.hid hD
   have d0 : 0 ≤ D := by omega
   have d1 : D ≤ 64 := by omega
   clear ih hs hN hM hD
   go_enter Tryz.func29, Tryz.ntmps29
   go_wp2_with fail
   go_loopg [9] N (fun q s9 wr => ∃ (i : Nat), s9 = .int .i64 i ∧ Hid (Below w.heap.size w wr) ∧ Hid (mayV n ((l.drop i).map Vl.c) = M) ∧ i ≤ N ∧ N - i ≤ q)
   case atStart => exact ⟨0, rfl, Lib.hid (Below.refl _ _), HM, Nat.zero_le _, by omega⟩
   case round =>
    clear HM
    obtain ⟨i, rfl, hb, hm, hiN, hq⟩ := hrel
    by_cases hi : i < N
    · have gi : decide ((i : Int) < (N : Int)) = true := by simpa using hi
      have gin : decide (i < N) = true := by simpa using hi
      have hil : i < l.length := by rw [HN.out]; exact hi
      have hli : l[i]? = some l[i] := List.getElem?_eq_getElem hil
      have hs2 := HS.out.below hb.out
      have hv := hs2.each i _ hli
      have hm2 := hm.out
      rw [List.drop_eq_getElem_cons hil, List.map_cons] at hm2
      obtain ⟨rfl, hbl⟩ := hs2.sl.lies (by omega)
      obtain ⟨x, hx⟩ : ∃ x, l[i] = x := ⟨_, rfl⟩
      rw [hx] at hli hv hm2
      obtain ⟨t, koa, kb, ko, kcap, kids⟩ := x
      obtain _ | h := h
      · exact hv.elim
      have f0 := hs2.cell hli (j := 0) rfl
      have f1 := hs2.cell hli (j := 1) rfl
      have f2 := hs2.cell hli (j := 2) rfl
      have f3 := hs2.cell hli (j := 3) rfl
      have f4 := hs2.cell hli (j := 4) rfl
      have f5 := hs2.cell hli (j := 5) rfl
      have f6 := hs2.cell hli (j := 6) rfl
      rw [Nat.add_zero] at f0
      rw [Vl.c_mk, mayV_cons] at hm2
      obtain ⟨K, hK⟩ : ∃ K, kids.length = K := ⟨_, rfl⟩
      have hke : (kids.map Vl.c).isEmpty = (K == 0) := by rw [← hK, List.isEmpty_map]; cases kids <;> rfl
      rw [hK] at f6
      have hks := hv.kids
      have h64 := hv.1
      obtain ⟨tk, tt, ⟨tn, td⟩, ti, tid⟩ := t
      obtain ⟨hk64, _, _⟩ := h64
      unfold I64 at hk64
      have hcl := fun w => rcloser_any tk w
      obtain ⟨C, hC⟩ : ∃ C, closeF tk = C := ⟨_, rfl⟩
      rw [hC] at hcl
      simp only [hC, hke] at hm2
      have HCL := Lib.hid hcl
      have HB := Lib.hid hb.out
      have HMM := Lib.hid hm2
      clear hcl hm2 hm hv hs2 hli hx hC hke
      have hnew := Below.alloc hb.out hb.out.size (.cells #[.int .i64 tk, .string ⟨tt.toArray⟩, .int .i64 tn, .int .i64 td, .bool ti, .bool tid, .slice koa K kcap] 44)
      have HNW := Lib.hid hnew
      have HKS := Lib.hid (hks.below ((Below.refl wr.heap.size wr).alloc (Nat.le_refl _) (.cells #[.int .i64 tk, .string ⟨tt.toArray⟩, .int .i64 tn, .int .i64 td, .bool ti, .bool tid, .slice koa K kcap] 44)))
      clear hnew hks hb
      by_cases hk : 1 ≤ tk ∧ tk ≤ 24
      · have k1 : decide (tk < (1 : Int)) = false := by simp; omega
        have k2 : decide ((24 : Int) < tk) = false := by simp; omega
        by_cases hC0 : C = 0
        · subst hC0
          by_cases hK0 : K = 0
          · have gK : decide ((0 : Int) < (K : Int)) = false := by simp; omega
            have gKn : decide (0 < K) = false := by simp; omega
            have HM2 := Lib.hid (show mayV n ((l.drop (i + 1)).map Vl.c) = M by rw [← HMM.out]; simp [hk.1, hk.2, hK0])
            clear HMM HKS hK0
            go_wp2_with fail
            go_wp2_with fail
            ((with_reducible refine (HCL.out _).mono ?_); rintro e w' ⟨rfl, rfl⟩)
            go_wp2_with fail
            go_roundg (N - (i + 1))
            case measure => omega
            case rel => exact ⟨i + 1, by go_num, HNW, HM2, hi, Nat.le_refl _⟩
          · have gK : decide ((0 : Int) < (K : Int)) = true := by simp; omega
            have gKn : decide (0 < K) = true := by simp; omega
            have HM2 := Lib.hid (show M = false by rw [← HMM.out]; simp [hK0])
            clear HMM HKS hK0
            go_wp2_with fail
            go_wp2_with fail
            ((with_reducible refine (HCL.out _).mono ?_); rintro e w' ⟨rfl, rfl⟩)
            go_wp2_with fail
            go_ret
            exact ⟨ret_bool (by rw [HM2.out]), HNW.out⟩
        · have gC : (C == 0) = false := by simpa using hC0
          by_cases hn0 : n = 0
          · subst hn0
            have gD : decide ((64 : Int) ≤ D) = true := by have := HDD.out; simp; omega
            have HM2 := Lib.hid (show M = false by rw [← HMM.out]; simp [hC0])
            clear HMM HKS
            go_wp2_with fail
            go_wp2_with fail
            ((with_reducible refine (HCL.out _).mono ?_); rintro e w' ⟨rfl, rfl⟩)
            go_wp2_with fail
            go_ret
            exact ⟨ret_bool (by rw [HM2.out]), HNW.out⟩
          · obtain ⟨n', rfl⟩ : ∃ n', n = n' + 1 := ⟨n - 1, by omega⟩
            have gD : decide ((64 : Int) ≤ D) = false := by have := HDD.out; simp; omega
            have hrec := HIH.out n' (by omega) h kids koa kcap kb ko _ (D + 1) (by have := HDD.out; omega) (by omega) HKS.out
            rw [hK] at hrec
            obtain ⟨R, hR⟩ : ∃ R, mayV n' (kids.map Vl.c) = R := ⟨_, rfl⟩
            rw [hR] at hrec
            have hmm := HMM.out
            simp only [if_neg hC0, hR] at hmm
            have HM2 := Lib.hid hmm
            have HRC := Lib.hid hrec
            clear hrec hR hmm HMM HKS HIH
            go_wp2_with fail
            go_wp2_with fail
            ((with_reducible refine (HCL.out _).mono ?_); rintro e w' ⟨rfl, rfl⟩)
            go_wp2_with fail
            go_wp2_with fail
            ((with_reducible refine (HRC.out).mono ?_); rintro e w' ⟨rfl, hbw⟩)
            obtain ⟨m, rfl⟩ := grow_mk hbw
            clear hbw
            have HNX := Lib.hid (below_grow HNW.out m)
            cases R with
            | true =>
              have HM3 := Lib.hid (show mayV (n' + 1) ((l.drop (i + 1)).map Vl.c) = M by rw [← HM2.out]; simp [hk.1, hk.2])
              clear HM2 HRC HNW
              go_wp2_with fail
              go_roundg (N - (i + 1))
              case measure => omega
              case rel => exact ⟨i + 1, by go_num, HNX, HM3, hi, Nat.le_refl _⟩
            | false =>
              have HM3 := Lib.hid (show M = false by rw [← HM2.out]; simp)
              clear HM2 HRC HNW
              go_wp2_with fail
              go_ret
              exact ⟨ret_bool (by rw [HM3.out]), HNX.out⟩
      · have HM2 := Lib.hid (show M = false by
         rw [← HMM.out]
         have : (decide (1 ≤ tk) && decide (tk ≤ 24)) = false := by rw [Bool.and_eq_false_iff]; simp only [decide_eq_false_iff_not]; omega
         rw [this]; simp)
        have ways : decide (tk < (1 : Int)) = true ∨ decide (tk < (1 : Int)) = false ∧ decide ((24 : Int) < tk) = true := by
         by_cases h1 : tk < 1
         · exact Or.inl (by simpa using h1)
         · exact Or.inr ⟨by simpa using h1, by simp; omega⟩
        clear HMM HKS hk
        rcases ways with k1 | ⟨k1, k2⟩
        all_goals
         go_wp2_with fail
         go_ret
         exact ⟨ret_bool (by rw [HM2.out]), HNW.out⟩
    · obtain rfl : i = N := by omega
      have gi : decide ((i : Int) < (i : Int)) = false := by simp
      have gin : decide (i < i) = false := by simp
      have hm2 := hm.out
      rw [List.drop_eq_nil_of_le (by rw [HN.out]; exact Nat.le_refl _), List.map_nil, mayV_nil] at hm2
      subst hm2
      clear hm HIH
      go_wp2_with fail
      go_ret
      exact ⟨rfl, hb.out⟩
end Go.Proofs.YtplnhjmomomphaaGreatDoor

namespace Go.Proofs.YtplnhjmomomphaaGreatDoor
set_option linter.unusedVariables false
set_option linter.unusedSimpArgs false
open Go.RowKit
set_option maxHeartbeats 1000000 in
theorem mayvr_any (h : Nat) (l : List Vl) (oa : Option Addr) (cap b o : Nat) (w : World) (hs : VsIn w h oa cap b o l) :
 Calls Tryz.prog 13 #[.slice oa l.length cap] w fun e w' => e = .returned (.bool (mayV 64 (l.map Vl.c))) ∧ Below w.heap.size w w' := by
 have HM := Lib.hid (rmayv_any 64 h l oa cap b o w 0 rfl (Nat.le_refl _) hs)
 clear hs
 go_enter Tryz.func13, Tryz.ntmps13
 go_wp2_with fail
 ((with_reducible refine (HM.out).mono ?_); rintro e w' ⟨rfl, hbw⟩)
 obtain ⟨m, rfl⟩ := grow_mk hbw
 clear hbw
 go_wp2_with fail
 go_ret
 exact ⟨rfl, grow_below m⟩
end Go.Proofs.YtplnhjmomomphaaGreatDoor

namespace Go.Proofs.YtplnhjmomomphaaGreatDoor
set_option linter.unusedVariables false
set_option linter.unusedSimpArgs false
open Go.RowKit
/-- a part of values, as a slice -/
theorem VsIn.part {w : World} {h : Nat} {oa : Option Addr} {cap b o : Nat} {l : List Vl} (hs : VsIn w h oa cap b o l) {a c : Nat} (hac : a ≤ c) (hc : c ≤ l.length) :
 VsIn w h (if cap = a then oa else oa.map (·.add (a * 7))) (cap - a) b (o + a * 7) ((l.take c).drop a) := by
 have hlen : ((l.take c).drop a).length = c - a := by rw [List.length_drop, List.length_take]; omega
 have hat : ∀ i, ((l.take c).drop a)[i]? = if a + i < c then l[a + i]? else none := fun i => by rw [List.getElem?_drop, List.getElem?_take]
 have h1 := hs.small
 have h2 := hs.sl.le
 have h3 := hs.sl.max
 refine ⟨by omega, ⟨by rw [flat_length vcells_length], by omega, by omega, fun hp => ?_, fun j v hv => ?_⟩, fun i x hi => ?_⟩
 · obtain ⟨hx, hb⟩ := hs.sl.lies (by omega)
   rw [if_neg (by omega), hx]
   exact ⟨by rw [Option.map_some, Addr.add_lit], hb⟩
 · obtain ⟨i, x, k, g1, g2, rfl⟩ := flat_split vcells_length (by omega) _ _ _ hv
   rw [hat] at g1
   split at g1
   · have := hs.cell g1 g2
     rw [Nat.add_mul] at this
     rw [show o + a * 7 + (i * 7 + k) = o + (a * 7 + i * 7) + k by omega]
     exact this
   · cases g1
 · rw [hat] at hi
   split at hi
   · exact hs.each _ _ hi
   · cases hi
/-- is it a blank? -/
def spL : Vl → Bool
 | .mk t _ _ _ _ _ => t.kind == 13
set_option maxHeartbeats 1000000 in
theorem spacer_any (tk tn td : Int) (tt : List UInt8) (ti tid : Bool) (koa : Option Addr) (K kcap : Nat) (w : World) :
 Calls Tryz.prog 51 #[.agg #[.int .i64 tk, .string ⟨tt.toArray⟩, .int .i64 tn, .int .i64 td, .bool ti, .bool tid, .slice koa K kcap]] w fun e w' => e = .returned (.bool (tk == 13)) ∧ Below w.heap.size w w' := by
 go_enter Tryz.func51, Tryz.ntmps51
 go_wp2_with fail
 go_ret
 exact ⟨rfl, below_box _ _⟩
end Go.Proofs.YtplnhjmomomphaaGreatDoor

namespace Go.Proofs.YtplnhjmomomphaaGreatDoor
set_option linter.unusedVariables false
set_option linter.unusedSimpArgs false
open Go.RowKit
/-- without blanks at the front; at the end -/
def frontL (l : List Vl) : List Vl := l.dropWhile spL
def backL (l : List Vl) : List Vl := (l.reverse.dropWhile spL).reverse
def trimL (l : List Vl) : List Vl := backL (frontL l)
theorem frontL_drop {l : List Vl} {a : Nat} (h : a < l.length) (hs : spL l[a] = true) : frontL (l.drop a) = frontL (l.drop (a + 1)) := by
 unfold frontL
 rw [List.drop_eq_getElem_cons h, List.dropWhile_cons_of_pos hs]
theorem frontL_stop {l : List Vl} {a : Nat} (h : a < l.length) (hs : spL l[a] = false) : frontL (l.drop a) = l.drop a := by
 unfold frontL
 rw [List.drop_eq_getElem_cons h, List.dropWhile_cons_of_neg (by simp [hs])]
theorem part_last {l : List Vl} {a b : Nat} (h : a < b) (hb : b ≤ l.length) : (l.take b).drop a = (l.take (b - 1)).drop a ++ [l[b - 1]] := by
 obtain ⟨c, rfl⟩ : ∃ c, b = c + 1 := ⟨b - 1, by omega⟩
 show (l.take (c + 1)).drop a = (l.take c).drop a ++ [l[c]'(by omega)]
 rw [List.take_succ_eq_append_getElem (by omega), List.drop_append_of_le_length (by rw [List.length_take]; omega)]
theorem backL_drop {l : List Vl} {a b : Nat} (h : a < b) (hb : b ≤ l.length) (hs : spL l[b - 1] = true) : backL ((l.take b).drop a) = backL ((l.take (b - 1)).drop a) := by
 rw [part_last h hb]
 unfold backL
 rw [List.reverse_append, List.reverse_singleton, List.singleton_append, List.dropWhile_cons_of_pos hs]
theorem backL_stop {l : List Vl} {a b : Nat} (h : a < b) (hb : b ≤ l.length) (hs : spL l[b - 1] = false) : backL ((l.take b).drop a) = (l.take b).drop a := by
 rw [part_last h hb]
 unfold backL
 rw [List.reverse_append, List.reverse_singleton, List.singleton_append, List.dropWhile_cons_of_neg (by simp [hs]), List.reverse_cons, List.reverse_reverse]
end Go.Proofs.YtplnhjmomomphaaGreatDoor

namespace Go.Proofs.YtplnhjmomomphaaGreatDoor
set_option linter.unusedVariables false
set_option linter.unusedSimpArgs false
open Go.RowKit
theorem VsIn.front {w : World} {h : Nat} {oa : Option Addr} {cap b o : Nat} {l : List Vl} (hs : VsIn w h oa cap b o l) {c : Nat} (hc : c ≤ l.length) : VsIn w h oa cap b o (l.take c) := by
 have := hs.part (a := 0) (Nat.zero_le c) hc
 rw [List.drop_zero, Nat.sub_zero, Nat.zero_mul, Nat.add_zero] at this
 have e : (if cap = 0 then oa else oa.map (·.add 0)) = oa := by
  split
  · rfl
  · cases oa <;> rfl
 rw [e] at this
 exact this
set_option maxRecDepth 20000 in
set_option maxHeartbeats 4000000 in
theorem trimmed_any (h : Nat) (l : List Vl) (oa : Option Addr) (cap b o : Nat) (w : World) (hs : VsIn w h oa cap b o l) :
 Calls Tryz.prog 31 #[.slice oa l.length cap] w fun e w' => (∃ oa' cap' o', e = .returned (.slice oa' (trimL l).length cap') ∧ VsIn w' h oa' cap' b o' (trimL l)) ∧ Below w.heap.size w w' := by
 have HS := Lib.hid hs
 clear hs
 go_enter Tryz.func31, Tryz.ntmps31
 go_upto_block 0 with fail
 go_cut [0] (fun s wx => ∃ (oa' : Option Addr) (cap' o' M : Nat), s = .slice oa' M cap' ∧ Hid (M = (frontL l).length) ∧ Hid (Below w.heap.size w wx) ∧ Hid (VsIn wx h oa' cap' b o' (frontL l)))
 case first =>
  go_wp2_with fail
  go_loopg [0] l.length (fun q s wr => ∃ (m : List Vl) (oa' : Option Addr) (cap' o' M : Nat), s = .slice oa' M cap' ∧ Hid (M = m.length) ∧ Hid (Below w.heap.size w wr) ∧ Hid (VsIn wr h oa' cap' b o' m) ∧ Hid (frontL m = frontL l) ∧ M ≤ q)
  case atStart => exact ⟨l, oa, cap, o, _, rfl, Lib.hid rfl, Lib.hid (Below.refl _ _), HS, Lib.hid rfl, Nat.le_refl _⟩
  case round =>
   obtain ⟨m, oa', cap', o', M, rfl, hM, hb, hv, hm, hq⟩ := hrel
   have hs2 := hv.out
   have hsm := hs2.small
   have hcm := hs2.sl.max
   have hcl := hs2.sl.le
   unfold maxLen at hcm
   rw [← hM.out] at hsm hcl
   by_cases hi : 0 < M
   · have gi : decide ((0 : Int) < (M : Int)) = true := by simpa using hi
     have gin : decide (0 < M) = true := by simpa using hi
     have hil : 0 < m.length := by rw [← hM.out]; exact hi
     have hli : m[0]? = some m[0] := List.getElem?_eq_getElem hil
     obtain ⟨rfl, hbl⟩ := hs2.sl.lies (by omega)
     obtain ⟨x, hx⟩ : ∃ x, m[0] = x := ⟨_, rfl⟩
     rw [hx] at hli
     obtain ⟨t, koa, kb, ko, kcap, kids⟩ := x
     obtain ⟨K, hK⟩ : ∃ K, kids.length = K := ⟨_, rfl⟩
     have f0 := hs2.cell hli (j := 0) rfl
     have f1 := hs2.cell hli (j := 1) rfl
     have f2 := hs2.cell hli (j := 2) rfl
     have f3 := hs2.cell hli (j := 3) rfl
     have f4 := hs2.cell hli (j := 4) rfl
     have f5 := hs2.cell hli (j := 5) rfl
     have f6 := hs2.cell hli (j := 6) rfl
     rw [Nat.add_zero] at f0
     rw [hK] at f6
     obtain ⟨tk, tt, ⟨tn, td⟩, ti, tid⟩ := t
     have hsp : spL m[0] = (tk == 13) := by rw [hx]; rfl
     have HC := Lib.hid (fun w => spacer_any tk tn td tt ti tid koa K kcap w)
     have HSP := Lib.hid hsp
     rw [Nat.zero_mul, Nat.add_zero] at f1 f2 f3 f4 f5 f6
     clear hs2 hli hx hsp hK
     by_cases hk : tk = 13
     · subst hk
       have HPT := Lib.hid (hv.out.part (a := 1) (c := m.length) hil (Nat.le_refl _))
       have HPL := Lib.hid (show M - 1 = ((m.take m.length).drop 1).length by rw [List.take_length, List.length_drop, hM.out])
       have HFR := Lib.hid (show frontL ((m.take m.length).drop 1) = frontL l by rw [List.take_length, ← frontL_drop hil HSP.out]; exact hm.out)
       go_wp2_with fail
       go_wp2_with fail
       ((with_reducible refine (HC.out _).mono ?_); rintro e w' ⟨rfl, hbw⟩)
       obtain ⟨mm, rfl⟩ := grow_mk hbw
       clear hbw
       go_wp2_with fail
       · have HP2 := HPT.out
         rw [if_pos (by assumption), show cap' - 1 = 0 by omega] at HP2
         have HP3 := Lib.hid (HP2.below (grow_below mm))
         go_roundg (M - 1)
         case measure => omega
         case rel => exact ⟨_, some ⟨b, o', none⟩, 0, o' + 1 * 7, M - 1, rfl, HPL, Lib.hid (below_grow hb.out mm), HP3, HFR, Nat.le_refl _⟩
       · have HP2 := HPT.out
         rw [if_neg (by assumption), Option.map_some, Addr.add_lit] at HP2
         have HP3 := Lib.hid (HP2.below (grow_below mm))
         go_roundg (M - 1)
         case measure => omega
         case rel => exact ⟨_, some ⟨b, o' + 1 * 7, none⟩, cap' - 1, o' + 1 * 7, M - 1, rfl, HPL, Lib.hid (below_grow hb.out mm), HP3, HFR, Nat.le_refl _⟩
     · have gk : (tk == (13 : Int)) = false := by simpa using hk
       go_wp2_with fail
       go_wp2_with fail
       ((with_reducible refine (HC.out _).mono ?_); rintro e w' ⟨rfl, hbw⟩)
       obtain ⟨mm, rfl⟩ := grow_mk hbw
       clear hbw
       go_wp2_with fail
       go_meet
       case rel =>
        have hfm : frontL l = m := by rw [← hm.out]; exact frontL_stop (a := 0) hil (HSP.out.trans gk)
        rw [hfm]
        exact ⟨_, cap', o', M, rfl, hM, Lib.hid (below_grow hb.out mm), Lib.hid (hv.out.below (grow_below mm))⟩
   · have gi : decide ((0 : Int) < (M : Int)) = false := by simpa using hi
     have gin : decide (0 < M) = false := by simpa using hi
     go_wp2_with fail
     go_meet
     case rel =>
      have hmn : m = [] := List.eq_nil_of_length_eq_zero (by rw [← hM.out]; omega)
      have hfm : frontL l = m := by rw [← hm.out, hmn]; rfl
      rw [hfm]
      exact ⟨oa', cap', o', M, rfl, hM, hb, hv⟩
 case rest =>
  obtain ⟨oa', cap', o', M, rfl, hM0, hb0, hv0⟩ := hcut
  obtain ⟨F, hF⟩ : ∃ F, frontL l = F := ⟨_, rfl⟩
  have hF0 := Lib.hid (show trimL l = backL F by rw [← hF]; rfl)
  rw [hF] at hM0 hv0
  clear hF
  go_upto_block 2 with fail
  go_cut [0] (fun s wx => ∃ (L : Nat), s = .slice oa' L cap' ∧ Hid (L = (trimL l).length) ∧ Hid (Below w.heap.size w wx) ∧ Hid (VsIn wx h oa' cap' b o' (trimL l)))
  case first =>
   go_wp2_with fail
   go_loopg [0] M (fun q s wr => ∃ (m : List Vl) (L : Nat), s = .slice oa' L cap' ∧ Hid (L = m.length) ∧ Hid (Below w.heap.size w wr) ∧ Hid (VsIn wr h oa' cap' b o' m) ∧ Hid (backL m = trimL l) ∧ L ≤ q)
   case atStart => exact ⟨F, M, rfl, hM0, hb0, hv0, Lib.hid hF0.out.symm, Nat.le_refl _⟩
   case round =>
    obtain ⟨m, L, rfl, hM, hb, hv, hm, hq⟩ := hrel
    have hs2 := hv.out
    have hsm := hs2.small
    have hcm := hs2.sl.max
    have hcl := hs2.sl.le
    unfold maxLen at hcm
    rw [← hM.out] at hsm hcl
    by_cases hi : 0 < L
    · have gi : decide ((0 : Int) < (L : Int)) = true := by simpa using hi
      have gin : decide (0 < L) = true := by simpa using hi
      obtain ⟨i, rfl⟩ : ∃ i, L = i + 1 := ⟨L - 1, by omega⟩
      have hml := hM.out
      have hil : i < m.length := by omega
      have hli : m[i]? = some m[i] := List.getElem?_eq_getElem hil
      obtain ⟨rfl, hbl⟩ := hs2.sl.lies (by omega)
      obtain ⟨x, hx⟩ : ∃ x, m[i] = x := ⟨_, rfl⟩
      rw [hx] at hli
      obtain ⟨t, koa, kb, ko, kcap, kids⟩ := x
      obtain ⟨K, hK⟩ : ∃ K, kids.length = K := ⟨_, rfl⟩
      have f0 := hs2.cell hli (j := 0) rfl
      have f1 := hs2.cell hli (j := 1) rfl
      have f2 := hs2.cell hli (j := 2) rfl
      have f3 := hs2.cell hli (j := 3) rfl
      have f4 := hs2.cell hli (j := 4) rfl
      have f5 := hs2.cell hli (j := 5) rfl
      have f6 := hs2.cell hli (j := 6) rfl
      rw [Nat.add_zero] at f0
      rw [hK] at f6
      obtain ⟨tk, tt, ⟨tn, td⟩, ti, tid⟩ := t
      have hsp : spL m[i] = (tk == 13) := by rw [hx]; rfl
      have HC := Lib.hid (fun w => spacer_any tk tn td tt ti tid koa K kcap w)
      have HSP := Lib.hid hsp
      have hix : (((i + 1 : Nat) : Int)) - 1 = (i : Int) := by omega
      have hwhole : m = (m.take (i + 1)).drop 0 := by rw [List.drop_zero, List.take_of_length_le (by omega)]
      have HW := Lib.hid hwhole
      clear hs2 hli hx hsp hK hml hwhole
      by_cases hk : tk = 13
      · subst hk
        have HPT := Lib.hid (hv.out.front (c := i) (Nat.le_of_lt hil))
        have HPL := Lib.hid (show i = (m.take i).length by rw [List.length_take]; omega)
        have HFR := Lib.hid (show backL (m.take i) = trimL l by
         have e := backL_drop (l := m) (a := 0) (b := i + 1) (Nat.succ_pos _) hil HSP.out
         rw [← HW.out, List.drop_zero, Nat.add_sub_cancel] at e
         rw [← e]
         exact hm.out)
        go_wp2_with fail
        go_wp2_with fail
        ((with_reducible refine (HC.out _).mono ?_); rintro e w' ⟨rfl, hbw⟩)
        obtain ⟨mm, rfl⟩ := grow_mk hbw
        clear hbw
        go_wp2_with fail
        all_goals (
         have HP3 := Lib.hid (HPT.out.below (grow_below mm))
         go_roundg i
         case measure => omega
         case rel => exact ⟨_, i, by go_num, HPL, Lib.hid (below_grow hb.out mm), HP3, HFR, Nat.le_refl _⟩)
      · have gk : (tk == (13 : Int)) = false := by simpa using hk
        go_wp2_with fail
        go_wp2_with fail
        ((with_reducible refine (HC.out _).mono ?_); rintro e w' ⟨rfl, hbw⟩)
        obtain ⟨mm, rfl⟩ := grow_mk hbw
        clear hbw
        go_wp2_with fail
        go_meet
        case rel =>
         have hfm : trimL l = m := by
          have e := backL_stop (l := m) (a := 0) (b := i + 1) (Nat.succ_pos _) hil (HSP.out.trans gk)
          rw [← HW.out] at e
          rw [← hm.out]
          exact e
         rw [hfm]
         exact ⟨i + 1, rfl, hM, Lib.hid (below_grow hb.out mm), Lib.hid (hv.out.below (grow_below mm))⟩
    · have gi : decide ((0 : Int) < (L : Int)) = false := by simpa using hi
      have gin : decide (0 < L) = false := by simpa using hi
      go_wp2_with fail
      go_meet
      case rel =>
       have hmn : m = [] := List.eq_nil_of_length_eq_zero (by rw [← hM.out]; omega)
       have hfm : trimL l = m := by rw [← hm.out, hmn]; rfl
       rw [hfm]
       exact ⟨L, rfl, hM, hb, hv⟩
  case rest =>
   obtain ⟨L, rfl, hL, hb, hv⟩ := hcut
   go_wp2_with fail
   go_ret
   exact ⟨⟨oa', cap', o', by rw [← hL.out]; rfl, hv.out⟩, hb.out⟩
end Go.Proofs.YtplnhjmomomphaaGreatDoor

namespace Go.Proofs.YtplnhjmomomphaaGreatDoor
set_option linter.unusedVariables false
set_option linter.unusedSimpArgs false
open Go.RowKit
/-- holds, and goes on to hold while no block but those of A, of those that are, turns -/
def Safe (A : Nat → Prop) (w : World) (φ : World → Prop) : Prop := ∀ w' : World, w.heap.size ≤ w'.heap.size → (∀ b, b < w.heap.size → ¬ A b → w'.heap[b]? = w.heap[b]?) → φ w'
section
variable {A A' : Nat → Prop} {w w' : World} {φ ψ : World → Prop} {row : Option Nat}
theorem Safe.here (h : Safe A w φ) : φ w := h w (Nat.le_refl _) (fun _ _ _ => rfl)
theorem Safe.mono (h : Safe A w φ) (hφ : ∀ w', φ w' → ψ w') : Safe A w ψ := fun w' h1 h2 => hφ w' (h w' h1 h2)
theorem Safe.and (h : Safe A w φ) (h2 : Safe A w ψ) : Safe A w (fun w => φ w ∧ ψ w) := fun w' a b => ⟨h w' a b, h2 w' a b⟩
theorem Safe.anti (h : Safe A w φ) (hA : ∀ b, A' b → b < w.heap.size → A b) : Safe A' w φ := fun w' h1 h2 => h w' h1 fun b hb hn => h2 b hb fun ha => hn (hA b ha hb)
theorem Safe.grown (h : Safe A w φ) (hg : w.grownBy w' row) (hr : ∀ k, row = some k → k < w.heap.size → A k) : Safe A w' φ := fun w2 h1 h2 =>
 h w2 (Nat.le_trans hg.size h1) fun b hb hn => (h2 b (Nat.lt_of_lt_of_le hb hg.size) hn).trans (hg.block b hb fun e => hn (hr b e.symm hb))
theorem Safe.below (h : Safe A w φ) (hb : Below w.heap.size w w') : Safe A w' φ := h.grown (grownBy_of_below hb none) (fun _ e => by cases e)
theorem Safe.grow (h : Safe A w φ) (m : Ext w) : Safe A (Go.Proofs.YtplnhjmomomphaaGreatDoor.grow w m) φ := h.below (grow_below m)
theorem Safe.set (h : Safe A w φ) {p : Addr} (hp : A p.block) (u : Value) : Safe A (w.setCell p u) φ := fun w2 h1 h2 =>
 h w2 (by simpa using h1) fun b hb hn => (h2 b (by simpa using hb) hn).trans (Below.heap_setCell w p u b fun e => hn (e ▸ hp))
theorem Safe.alloc (h : Safe A w φ) (o : Obj) : Safe A (w.alloc o) φ := h.below (below_box w o)
/-- more blocks, which the world does not have yet, may be written -/
theorem Safe.wide (h : Safe A w φ) (hA : ∀ b, A' b → A b ∨ w.heap.size ≤ b) : Safe A' w φ := h.anti fun b hb hl => (hA b hb).resolve_right (by omega)
end
/-- the heap has grown -/
def Hx (w w' : World) : Prop := w.heap.size ≤ w'.heap.size ∧ ∀ b, b < w.heap.size → w'.heap[b]? = w.heap[b]?
theorem Hx.cell {w w' : World} (h : Hx w w') {a : Addr} (ha : a.block < w.heap.size) : w'.cell? a = w.cell? a := by
 simp only [World.cell?]
 rw [h.2 _ ha]
theorem Sl.hx {w w' : World} {oa : Option Addr} {n cap b o sz : Nat} {vs : List Value} (h : Sl w oa n cap b o sz vs) (hb : Hx w w') : Sl w' oa n cap b o sz vs :=
 ⟨h.len, h.le, h.max, fun hp => ⟨(h.lies hp).1, Nat.lt_of_lt_of_le (h.lies hp).2 hb.1⟩, fun j v hv => (hb.cell (a := ⟨b, o + j, none⟩) (h.lies (h.pos hv)).2).trans (h.cell j v hv)⟩
theorem Sl.safe {A : Nat → Prop} {w : World} {oa : Option Addr} {n cap b o sz : Nat} {vs : List Value} (h : Sl w oa n cap b o sz vs) (hA : 0 < n → ¬ A b) : Safe A w fun w => Sl w oa n cap b o sz vs := fun w' h1 h2 =>
 ⟨h.len, h.le, h.max, fun hp => ⟨(h.lies hp).1, Nat.lt_of_lt_of_le (h.lies hp).2 h1⟩, fun j v hv => by
   have hp := h.pos hv
   rw [← h.cell j v hv]
   simp only [World.cell?]
   rw [h2 b (h.lies hp).2 (hA hp)]⟩
theorem VlIn.hx : ∀ (h : Nat) {v : Vl} {w w' : World}, VlIn w h v → Hx w w' → VlIn w' h v
 | 0, _, _, _, hx, _ => hx.elim
 | h + 1, .mk t oa b o cap kids, w, w', hx, hb => ⟨hx.1, hx.2.1, hx.2.2.1.hx hb, fun i x hi => VlIn.hx h (hx.2.2.2 i x hi) hb⟩
theorem VsIn.hx {w w' : World} {h : Nat} {oa : Option Addr} {cap b o : Nat} {l : List Vl} (hs : VsIn w h oa cap b o l) (hb : Hx w w') : VsIn w' h oa cap b o l :=
 ⟨hs.small, hs.sl.hx hb, fun i x hi => (hs.each i x hi).hx h hb⟩
/-- what was there does not hang on what is to come -/
theorem VsIn.safe {w : World} {h : Nat} {oa : Option Addr} {cap b o : Nat} {l : List Vl} (hs : VsIn w h oa cap b o l) : Safe (w.heap.size ≤ ·) w fun w => VsIn w h oa cap b o l := fun _ h1 h2 => hs.hx ⟨h1, fun b hb => h2 b hb (by omega)⟩
/-- values, made in memory -/
theorem VsIn.made {A : Nat → Prop} {w : World} {h : Nat} {oa : Option Addr} {cap b : Nat} {l : List Vl} (h1 : l.length * 72 ≤ 140737488355328) (h2 : Sl w oa l.length cap b 0 7 (l.flatMap vcells)) (hA : 0 < l.length → ¬ A b)
 (h3 : Safe A w fun w => ∀ x ∈ l, VlIn w h x) : Safe A w fun w => VsIn w h oa cap b 0 l := fun w' g1 g2 =>
 ⟨h1, (h2.safe hA) w' g1 g2, fun _ x hi => h3 w' g1 g2 x (List.mem_of_getElem? hi)⟩
theorem VlIn.made {A : Nat → Prop} {w : World} {h : Nat} {t : Tk} {oa : Option Addr} {cap b o : Nat} {l : List Vl} (ht : Tk64 t) (hs : Safe A w fun w => VsIn w h oa cap b o l) : Safe A w fun w => VlIn w (h + 1) (.mk t oa b o cap l) := hs.mono fun _ h => ⟨ht, h.small, h.sl, h.each⟩
/-- an element, built in a block of its own, behind a row: whatever else the world is -/
theorem wpList_add {ops : Array Oper} {rest : List Oper} {o : Oper} {a : Act} {Q : Exit → Act → World → Prop} {base : Nat} {w : World} {t e : TypeId} {z : Value} {size bytes : Nat} (E : El t e z size bytes)
 (hgd : o.guard = none) (s x : Operand) (ho : o.op = .call { callee := .builtin .append, args := #[s, x], argTypes := #[t, t] }) {v : Value} {n : Nat} {xs : List Value} (hs : a.eval s = v)
 (hown : w.ownsRow base e size v n xs) (hbase : base ≤ w.heap.size) {B : Nat} {cs : Array Value} {tc : TypeId} (hB : Blk w B tc cs) (c : Nat) (hx : a.eval x = .slice (some ⟨B, 0, none⟩) 1 c) (hl : cs.toList.length = size) (h1 : ∀ u ∈ cs.toList, u.oneCell' = true)
 (hbytes : (n + 1) * bytes ≤ 140737488355328) (h63 : n + 1 ≤ 140737488355328)
 (h : ∀ g cap w', w'.ownsRow base e size (.slice (some ⟨g, 0, none⟩) (n + 1) cap) (n + 1) (xs ++ cs.toList) → w.grownBy w' v.ownBlock → (v.ownBlock = some g ∨ g = w.heap.size) → (∀ k, v.ownBlock = some k → base ≤ k ∧ k < w.heap.size) → wpList Tryz.prog ops Q rest (a.put o.dst (.slice (some ⟨g, 0, none⟩) (n + 1) cap)) w') :
 wpList Tryz.prog ops Q (o :: rest) a w := by
 obtain ⟨i0, hi0, hz0, hz1, hz2⟩ := info_parts E.info
 refine wpList_append_lies _ hgd s x t ho base e i0 z size bytes E.under hi0 hz0 hz1 hz2 E.zs E.pos v n xs hs hown ⟨B, 0, none⟩ 1 c cs.toList hx (by rw [hl, Nat.one_mul])
  (World.news_of_block (cs := cs) (t := tc) (fr := (0, 0)) hB) h1 (by omega) (Nat.le_trans h63 (by decide)) hbytes hbase _ rfl fun g cap w' ho2 hg hat _ => ?_
 exact h g cap w' ho2 hg hat (fun k hk => hown.lt k hk)
def Loose.fw (i : Nat) (d : Tmp) (φ : Value → World → Prop) (hs : ∀ v w1 w2, φ v w1 → Below w1.heap.size w1 w2 → φ v w2) : Loose := ⟨i, d, none, φ, fun _ => none, hs⟩
def Loose.rw (i : Nat) (d : Tmp) (t : TypeId) (k k0 : Nat) (φ : Array Value → World → Prop) (hs : ∀ v w1 w2, φ v w1 → Below w1.heap.size w1 w2 → φ v w2) : Loose :=
 ⟨i, d, none, fun v w => ∃ b cs, v = .slice (some ⟨b, 0, none⟩) k k ∧ k0 ≤ b ∧ φ cs w ∧ Blk w b t cs, ownS, fun _ _ _ ⟨b, cs, h1, h0, hc, h2⟩ hb => ⟨b, cs, h1, h0, hs _ _ _ hc hb, h2.below hb h2.lt⟩⟩
section
variable (V : Nat → Value) (w : World) (i : Nat) (d : Tmp) (φ : Value → World → Prop) (hs : ∀ v w1 w2, φ v w1 → Below w1.heap.size w1 w2 → φ v w2) (cl : List Loose)
theorem Loose.fw_i : (Loose.fw i d φ hs).i = i := rfl
theorem Loose.fw_hush (o : Oper) : (Loose.fw i d φ hs).hush o = { o with dst := none, op := .move (.const undef), guard := none } := rfl
theorem fill_fw (a : Act) : fill V (Loose.fw i d φ hs :: cl) a = fill V cl (a.put (some d) (V i)) := rfl
theorem laws_fw : lawsL V w (Loose.fw i d φ hs :: cl) = (φ (V i) w ∧ lawsL V w cl) := rfl
theorem dist_fw : distL V (Loose.fw i d φ hs :: cl) = distL V cl := by
 have h : ∀ cl : List Loose, distL1 V (Loose.fw i d φ hs) cl := fun cl => distL1_of fun L' _ k k' h => by cases h
 simp [distL, h]
theorem dist1_fw (L : Loose) : distL1 V L (Loose.fw i d φ hs :: cl) = distL1 V L cl := by
 have h : ∀ k k', L.own (V L.i) = some k → (Loose.fw i d φ hs).own (V i) = some k' → k ≠ k' := fun k k' _ h => by cases h
 exact propext ⟨fun h2 => h2.2, fun h2 => ⟨h, h2⟩⟩
end
section
variable (V : Nat → Value) (w : World) (i : Nat) (d : Tmp) (t : TypeId) (k k0 : Nat) (φ : Array Value → World → Prop) (hs : ∀ v w1 w2, φ v w1 → Below w1.heap.size w1 w2 → φ v w2) (cl : List Loose)
theorem Loose.rw_i : (Loose.rw i d t k k0 φ hs).i = i := rfl
theorem Loose.rw_hush (o : Oper) : (Loose.rw i d t k k0 φ hs).hush o = { o with dst := none, op := .move (.const undef), guard := none } := rfl
theorem fill_rw (a : Act) : fill V (Loose.rw i d t k k0 φ hs :: cl) a = fill V cl (a.put (some d) (V i)) := rfl
theorem laws_rw : lawsL V w (Loose.rw i d t k k0 φ hs :: cl) = ((∃ b cs, V i = .slice (some ⟨b, 0, none⟩) k k ∧ k0 ≤ b ∧ φ cs w ∧ Blk w b t cs) ∧ lawsL V w cl) := rfl
theorem dist_rw : distL V (Loose.rw i d t k k0 φ hs :: cl) = (distL1 V (Loose.rw i d t k k0 φ hs) cl ∧ distL V cl) := rfl
end
theorem post_fw {i : Nat} {d : Tmp} {φ : Value → World → Prop} {hs : ∀ v w1 w2, φ v w1 → Below w1.heap.size w1 w2 → φ v w2} {v : Value} {F : Act} {w w' : World} {a : Act} (h : a = F.put (some d) v) (hv : φ v w') (hb : Below w.heap.size w w') : PostL (Loose.fw i d φ hs) F w .normal a w' :=
 ⟨rfl, _, h, hb, hv, fun k hk => (by cases hk), fun c2 hc => (by cases hc)⟩
theorem post_rw {k0 : Nat} {i : Nat} {d : Tmp} {t : TypeId} {k : Nat} {φ : Array Value → World → Prop} {hs : ∀ v w1 w2, φ v w1 → Below w1.heap.size w1 w2 → φ v w2} {cs : Array Value} {F : Act} {w : World} {a : Act} (h : a = F.put (some d) (.slice (some ⟨w.heap.size, 0, none⟩) k k)) (hk : k0 ≤ w.heap.size) (hc : φ cs w) : PostL (Loose.rw i d t k k0 φ hs) F w .normal a (w.alloc (.cells cs t)) :=
 ⟨rfl, _, h, below_box _ _, ⟨_, _, rfl, hk, hs _ _ _ hc (below_box _ _), Blk.new _ _ _⟩, fun k2 hk => by
   simp only [Loose.rw, ownS, Option.some.injEq] at hk
   subst hk
   simp, fun c hc => by cases hc⟩
end Go.Proofs.YtplnhjmomomphaaGreatDoor

namespace Go.Proofs.YtplnhjmomomphaaGreatDoor
set_option linter.unusedVariables false
set_option linter.unusedSimpArgs false
open Go.RowKit
theorem spL_c (v : Vl) : spV v.c = spL v := by
 obtain ⟨t, oa, b, o, cap, kids⟩ := v
 rw [Vl.c_mk]
 rfl
theorem drop_c : ∀ l : List Vl, (l.map Vl.c).dropWhile spV = (l.dropWhile spL).map Vl.c
 | [] => rfl
 | x :: r => by
   rw [List.map_cons]
   cases h : spL x with
   | true => rw [List.dropWhile_cons_of_pos (by rw [spL_c]; exact h), List.dropWhile_cons_of_pos h, drop_c r]
   | false => rw [List.dropWhile_cons_of_neg (by rw [spL_c, h]; simp), List.dropWhile_cons_of_neg (by simp [h])]; rfl
theorem trim_c (l : List Vl) : (trimL l).map Vl.c = trimV (l.map Vl.c) := by
 unfold trimL trimV frontV backL frontL
 rw [List.map_reverse, ← drop_c, List.map_reverse, drop_c]
theorem elVal : El 22 44 (.agg #[.int .i64 0, .string ⟨#[]⟩, .int .i64 0, .int .i64 0, .bool false, .bool false, .slice none 0 0]) 7 72 := ⟨Tryz.underlying22, by kernel_rfl, rfl, by decide⟩
/-- these values are the slice v; they lie clear of A -/
def isVs (A : Nat → Prop) (h : Nat) (X : List Vt) (v : Value) (w : World) : Prop := ∃ (oa : Option Addr) (cap b o : Nat) (l : List Vl), v = .slice oa l.length cap ∧ l.map Vl.c = X ∧ Safe A w fun w => VsIn w h oa cap b o l
theorem isVs_stays (A : Nat → Prop) (h : Nat) (X : List Vt) : ∀ v w1 w2, isVs A h X v w1 → Below w1.heap.size w1 w2 → isVs A h X v w2 := fun _ _ _ ⟨oa, cap, b, o, l, hv, hc, hs⟩ hb => ⟨oa, cap, b, o, l, hv, hc, hs.below hb⟩
theorem isVs.anti {A A' : Nat → Prop} {h : Nat} {X : List Vt} {v : Value} {w : World} (hv : isVs A h X v w) (hA : ∀ b, A' b → A b ∨ w.heap.size ≤ b) : isVs A' h X v w := by
 obtain ⟨oa, cap, b, o, l, hv, hc, hs⟩ := hv
 exact ⟨oa, cap, b, o, l, hv, hc, hs.wide hA⟩
/-- a value of the token t whose kids are X -/
def isV1 (A : Nat → Prop) (h : Nat) (t : Tk) (X : List Vt) (v : Value) (w : World) : Prop := ∃ s, isVs A h X s w ∧ v = .agg (tkcells t ++ [s]).toArray
theorem isV1_stays (A : Nat → Prop) (h : Nat) (t : Tk) (X : List Vt) : ∀ v w1 w2, isV1 A h t X v w1 → Below w1.heap.size w1 w2 → isV1 A h t X v w2 := fun _ _ _ ⟨s, hv, e⟩ hb => ⟨s, isVs_stays A h X s _ _ hv hb, e⟩
def isVc (A : Nat → Prop) (h : Nat) (t : Tk) (X : List Vt) (cs : Array Value) (w : World) : Prop := ∃ s, isVs A h X s w ∧ cs = (tkcells t ++ [s]).toArray
theorem isVc_stays (A : Nat → Prop) (h : Nat) (t : Tk) (X : List Vt) : ∀ v w1 w2, isVc A h t X v w1 → Below w1.heap.size w1 w2 → isVc A h t X v w2 := fun _ _ _ ⟨s, hv, e⟩ hb => ⟨s, isVs_stays A h X s _ _ hv hb, e⟩
set_option maxRecDepth 20000 in
set_option maxHeartbeats 4000000 in
theorem copied_any : ∀ (h : Nat) (l : List Vl) (oa : Option Addr) (cap b o : Nat) (w : World), VsIn w h oa cap b o l →
 Calls Tryz.prog 30 #[.slice oa l.length cap] w fun e w' => (∃ v, e = .returned v ∧ isVs (· < w.heap.size) h (l.map Vl.c) v w') ∧ Below w.heap.size w w' := by
 intro h
 induction h with
 | zero =>
   intro l oa cap b o w hs
   have hl : l = [] := by
    cases l with
    | nil => rfl
    | cons x r => exact (hs.each 0 x rfl).elim
   subst hl
   go_enter Tryz.func30, Tryz.ntmps30
   go_wp2_with fail
   go_loopg [3, 8] 0 (fun q s3 s wr => s3 = .slice none 0 0 ∧ s = .int .i64 0 ∧ wr = w)
   case atStart => exact ⟨rfl, rfl, rfl⟩
   case round =>
    obtain ⟨rfl, rfl, rfl⟩ := hrel
    go_wp2_with fail
    go_ret
    exact ⟨⟨_, rfl, none, 0, 0, 0, [], rfl, rfl, VsIn.made (by simp) ⟨rfl, Nat.le_refl _, Nat.zero_le _, fun h => absurd h (by simp), fun j v h => by simp at h⟩ (fun h => absurd h (by simp)) (fun w' _ _ x hx => by cases hx)⟩, Below.refl _ _⟩
 | succ h ih =>
   intro l oa cap b o w hs
   obtain ⟨N, hN⟩ : ∃ N, l.length = N := ⟨_, rfl⟩
   rw [hN]
   have hsm := hs.small
   have hcm := hs.sl.max
   have hcl := hs.sl.le
   unfold maxLen at hcm
   rw [hN] at hsm hcl
   have HS := Lib.hid hs
   have HN := Lib.hid hN
   have HIH := Lib.hid ih
   clear hs hN ih
   go_enter Tryz.func30, Tryz.ntmps30
   go_wp2_with fail
   go_loopg [3, 8] N (fun q s3 s wr => ∃ (i : Nat) (v : Value) (D : List Vl), s = .int .i64 i ∧ v = s3 ∧ Hid (Below w.heap.size w wr) ∧ Hid (wr.ownsRow w.heap.size 44 7 v i (D.flatMap vcells)) ∧ Hid (D.length = i ∧ D.map Vl.c = (l.take i).map Vl.c) ∧ Hid (Safe (fun b => b < w.heap.size ∨ v.ownBlock = some b) wr fun w => ∀ x ∈ D, VlIn w (h + 1) x) ∧ i ≤ N ∧ N - i ≤ q)
   case atStart => exact ⟨0, _, [], rfl, rfl, Lib.hid (Below.refl _ _), Lib.hid (World.ownsRow_nil _ _ _ _), Lib.hid ⟨rfl, rfl⟩, Lib.hid (fun w' _ _ x hx => by cases hx), Nat.zero_le _, by omega⟩
   case round =>
    obtain ⟨i, v, D, rfl, rfl, hb, hO, hD, hS, hiN, hq⟩ := hrel
    by_cases hi : i < N
    · have gi : decide ((i : Int) < (N : Int)) = true := by simpa using hi
      have gin : decide (i < N) = true := by simpa using hi
      have hil : i < l.length := by rw [HN.out]; exact hi
      have hli : l[i]? = some l[i] := List.getElem?_eq_getElem hil
      have hs2 := HS.out.below hb.out
      obtain ⟨rfl, hbl⟩ := hs2.sl.lies (by omega)
      have hkid := HS.out.each i _ hli
      have htk : (l.take (i + 1)).map Vl.c = (l.take i).map Vl.c ++ [l[i].c] := by rw [List.take_succ_eq_append_getElem hil, List.map_append]; rfl
      obtain ⟨x, hx⟩ : ∃ x, l[i] = x := ⟨_, rfl⟩
      rw [hx] at hli hkid htk
      obtain ⟨t, koa, kb, ko, kcap, kids⟩ := x
      have f0 := hs2.cell hli (j := 0) rfl
      have f1 := hs2.cell hli (j := 1) rfl
      have f2 := hs2.cell hli (j := 2) rfl
      have f3 := hs2.cell hli (j := 3) rfl
      have f4 := hs2.cell hli (j := 4) rfl
      have f5 := hs2.cell hli (j := 5) rfl
      have f6 := hs2.cell hli (j := 6) rfl
      rw [Nat.add_zero] at f0
      have HX := Lib.hid (fun wx hb => HIH.out kids koa kcap kb ko wx (VsIn.below (w' := wx) hkid.kids hb))
      have HT64 := Lib.hid hkid.1
      rw [Vl.c_mk] at htk
      have HTK := Lib.hid htk
      obtain ⟨tk, tt, ⟨tn, td⟩, ti, tid⟩ := t
      obtain ⟨KX, hKX⟩ : ∃ X, kids.map Vl.c = X := ⟨_, rfl⟩
      have hx2 := HX.out
      have htk2 := HTK.out
      rw [hKX] at hx2 htk2
      have HX := Lib.hid hx2
      have HTK := Lib.hid htk2
      clear hs2 hli hx hkid htk hx2 htk2 hKX
      generalize kids.length = K at *
      go_upto_region 5 with fail
      have hbv := Lib.hid (hb.out.alloc hb.out.size (.cells #[.int .i64 tk, .string ⟨tt.toArray⟩, .int .i64 tn, .int .i64 td, .bool ti, .bool tid, .slice koa K kcap] 44))
      have hkd := Blk.new wr 44 #[.int .i64 tk, .string ⟨tt.toArray⟩, .int .i64 tn, .int .i64 td, .bool ti, .bool tid, .slice koa K kcap]
      have hOv := Lib.hid (hO.out.alloc (.cells #[.int .i64 tk, .string ⟨tt.toArray⟩, .int .i64 tn, .int .i64 td, .bool ti, .bool tid, .slice koa K kcap] 44))
      have hSv := Lib.hid (hS.out.alloc (.cells #[.int .i64 tk, .string ⟨tt.toArray⟩, .int .i64 tn, .int .i64 td, .bool ti, .bool tid, .slice koa K kcap] 44))
      clear f0 f1 f2 f3 f4 f5 f6 hb hO hS
      generalize hgg : wr.heap.size = g at *
      generalize wr.alloc _ = wv at *
      have hwv := hbv.out.size
      have ck0 : wv.cell? ⟨g, 0, none⟩ = some (.int .i64 tk) := (hkd).cell 0
      have fck0 := (hkd).frozen 0
      have ck1 : wv.cell? ⟨g, 1, none⟩ = some (.string ⟨tt.toArray⟩) := (hkd).cell 1
      have fck1 := (hkd).frozen 1
      have ck2 : wv.cell? ⟨g, 2, none⟩ = some (.int .i64 tn) := (hkd).cell 2
      have fck2 := (hkd).frozen 2
      have ck3 : wv.cell? ⟨g, 3, none⟩ = some (.int .i64 td) := (hkd).cell 3
      have fck3 := (hkd).frozen 3
      have ck4 : wv.cell? ⟨g, 4, none⟩ = some (.bool ti) := (hkd).cell 4
      have fck4 := (hkd).frozen 4
      have ck5 : wv.cell? ⟨g, 5, none⟩ = some (.bool tid) := (hkd).cell 5
      have fck5 := (hkd).frozen 5
      have ck6 : wv.cell? ⟨g, 6, none⟩ = some (.slice koa K kcap) := (hkd).cell 6
      have fck6 := (hkd).frozen 6
      have lck := (hkd).lt
      refine wp_region_loose 8 [Loose.fw 5 17 (isVs (· < wv.heap.size) h KX) (isVs_stays _ _ _), Loose.fw 6 18 (isV1 (· < wv.heap.size) h ⟨tk, tt, (tn, td), ti, tid⟩ KX) (isV1_stays _ _ _ _), Loose.rw 7 19 44 1 wv.heap.size (isVc (· < wv.heap.size) h ⟨tk, tt, (tn, td), ti, tid⟩ KX) (isVc_stays _ _ _ _)] (by kernel_rfl) rfl (by kernel_rfl) (by kernel_rfl) (by kernel_rfl) (by kernel_rfl) ?_
      simp only [headL, hushL, List.find?, Loose.claim_i, Loose.cells_i, Loose.rowL_i, Loose.claim_hush, Loose.cells_hush, Loose.rowL_hush, Loose.val_i, Loose.rowS_i, Loose.val_hush, Loose.rowS_hush, Loose.fw_i, Loose.fw_hush, Loose.rw_i, Loose.rw_hush, Nat.reduceBEq, Nat.reduceAdd]
      repeat (go_big_quiet_step (fail))
      refine wpQuiet_nil ⟨fun V m => ?_, fun V m => ?_⟩
      · simp only [obs_cons, obs_nil, List.getElem?_cons_zero, List.getElem?_cons_succ, fill_nil, fill_claim, fill_cells, fill_rowL, Loose.claim_i, Loose.cells_i, Loose.rowL_i, Act.put, List.setIfInBounds_toArray, List.set_cons_zero, List.set_cons_succ, fill_val, fill_rowS, Loose.val_i, Loose.rowS_i, fill_fw, Loose.fw_i, fill_rw, Loose.rw_i]
        refine ⟨fun _ => ?_, fun hw => ?_, fun hw => ?_, trivial⟩
        · go_wp2_with fail
          ((with_reducible refine (HX.out _ (below_grow hbv.out m)).mono ?_); rintro e w2 ⟨⟨v5, rfl, hv5⟩, hbw⟩)
          have HV5 := Lib.hid hv5
          clear hv5
          go_wp2_with fail
          exact post_fw rfl (HV5.out.anti fun b hb => Or.inl (Nat.lt_of_lt_of_le hb (grow_size m))) hbw
        · obtain ⟨h5, _⟩ := hw
          obtain ⟨oa2, cap2, b2, o2, l2, hv, hc2, hs2⟩ := h5 (by kernel_rfl)
          have H5 := Lib.hid (And.intro hc2 hs2)
          change V 5 = _ at hv
          rw [hv]
          clear hv h5 hc2 hs2
          go_wp2_with fail
          exact post_fw rfl ⟨_, ⟨oa2, cap2, b2, o2, l2, rfl, H5.out.1, H5.out.2⟩, rfl⟩ (Below.refl _ _)
        · obtain ⟨_, h6, _⟩ := hw
          obtain ⟨s, ⟨oa2, cap2, b2, o2, l2, rfl, hc2, hs2⟩, hv⟩ := h6 (by kernel_rfl)
          have H5 := Lib.hid (And.intro hc2 hs2)
          change V 6 = _ at hv
          rw [hv]
          clear hv h6 hc2 hs2
          simp only [tkcells, List.cons_append, List.nil_append]
          go_wp2_with fail
          exact post_rw rfl (grow_size m) ⟨_, ⟨oa2, cap2, b2, o2, l2, rfl, H5.out.1, H5.out.2⟩, rfl⟩
      · simp only [laws_nil, laws_claim, laws_cells, laws_rowL, laws_val, laws_rowS, laws_fw, laws_rw, dist_nil, dist_claim, dist_cells, dist_rowL, dist_val, dist_rowS, dist_fw, dist_rw, dist1_nil, dist1_claim, dist1_cells, dist1_rowL, dist1_val, dist1_fw, dist1_cells_rowL, dist1_rowL_cells, List.drop_succ_cons, List.drop_zero, and_true, fill_nil, fill_claim, fill_cells, fill_rowL, Loose.claim_i, Loose.cells_i, Loose.rowL_i, Act.put, List.setIfInBounds_toArray, List.set_cons_zero, List.set_cons_succ, fill_val, fill_rowS, Loose.val_i, Loose.rowS_i, fill_fw, Loose.fw_i, fill_rw, Loose.rw_i]
        rintro ⟨_, _, gb, cs, hv7, hgb, ⟨s, ⟨oa2, cap2, b2, o2, l2, rfl, hc2, hs2⟩, rfl⟩, hbk⟩ _
        rw [hv7]
        have HC2 := Lib.hid (And.intro hc2 hs2)
        have hbq := Lib.hid (below_grow hbv.out m)
        have hoq := Lib.hid (owns_grow hOv.out m)
        have HVL := Lib.hid (fun k hk => (hOv.out.lt k hk).2)
        have hsq := Lib.hid (hSv.out.grow m)
        have hgq := grow_size m
        have hln : (D ++ [Vl.mk ⟨tk, tt, (tn, td), ti, tid⟩ oa2 b2 o2 cap2 l2]).length = i + 1 := by rw [List.length_append, hD.out.1]; rfl
        have hcn : (D ++ [Vl.mk ⟨tk, tt, (tn, td), ti, tid⟩ oa2 b2 o2 cap2 l2]).map Vl.c = (l.take (i + 1)).map Vl.c := by
         rw [List.map_append, hD.out.2, HTK.out]
         simp only [List.map_cons, List.map_nil, Vl.c_mk, hc2]
        have HDN := Lib.hid (And.intro hln hcn)
        clear hv7 hc2 hs2 hbv hOv hSv hln hcn ck0 ck1 ck2 ck3 ck4 ck5 ck6 fck0 fck1 fck2 fck3 fck4 fck5 fck6 lck hkd HX
        generalize grow wv m = wq at *
        have hbs := hbq.out.size
        go_wp2_with (at_builtin; refine wpList_add elVal rfl _ _ rfl rfl hoq.out hbs hbk 1 rfl rfl (by simp [tkcells, Value.oneCell']) (by omega) (by omega) ?_; intro gg cap3 w3 ho3 hg3 hat hvb; have H3 := Lib.hid (And.intro ho3 (And.intro hg3 (And.intro hat hvb))); clear ho3 hg3 hat hvb)
        obtain ⟨ho3, hg3, hat, hvb⟩ := H3.out
        have hsafe : Safe (fun b => b < w.heap.size ∨ (Value.slice (some ⟨gg, 0, none⟩) (i + 1) cap3).ownBlock = some b) w3 fun w => ∀ x ∈ D ++ [Vl.mk ⟨tk, tt, (tn, td), ti, tid⟩ oa2 b2 o2 cap2 l2], VlIn w (h + 1) x := by
         have hA : ∀ b, (b < w.heap.size ∨ v.ownBlock = some b ∨ b = gg) → (b < w.heap.size ∨ v.ownBlock = some b) ∨ wq.heap.size ≤ b := fun b hb => by
          rcases hb with hb | hb | rfl
          · exact Or.inl (Or.inl hb)
          · exact Or.inl (Or.inr hb)
          · rcases hat with hat | hat
            · exact Or.inl (Or.inr hat)
            · exact Or.inr (by omega)
         have h1 := (hsq.out.wide hA).grown hg3 (fun k hk _ => Or.inr (Or.inl hk))
         have hA2 : ∀ b, (b < w.heap.size ∨ v.ownBlock = some b ∨ b = gg) → (b < wv.heap.size) ∨ wq.heap.size ≤ b := fun b hb => by
          rcases hb with hb | hb | rfl
          · omega
          · exact Or.inl (HVL.out b hb)
          · rcases hat with hat | hat
            · exact Or.inl (HVL.out _ hat)
            · exact Or.inr (by omega)
         have h2 := ((VlIn.made HT64.out HC2.out.2).wide hA2).grown hg3 (fun k hk _ => Or.inr (Or.inl hk))
         refine ((h1.and h2).mono fun w' hw x hx => ?_).anti fun b hb _ => ?_
         · rcases List.mem_append.1 hx with hx | hx
           · exact hw.1 x hx
           · obtain rfl := List.mem_singleton.1 hx
             exact hw.2
         · rcases hb with hb | hb
           · exact Or.inl hb
           · exact Or.inr (Or.inr (Option.some.inj hb).symm)
        go_roundg (N - (i + 1))
        case measure => omega
        case rel => exact ⟨i + 1, _, D ++ [Vl.mk ⟨tk, tt, (tn, td), ti, tid⟩ oa2 b2 o2 cap2 l2], by go_num, rfl, Lib.hid (below_far hbq.out hg3 fun k hk => (hvb k hk).1), Lib.hid (by have := ho3; simpa [tkcells, vcells] using this), HDN, Lib.hid hsafe, hi, Nat.le_refl _⟩
    · obtain rfl : i = N := by omega
      have gi : decide ((i : Int) < (i : Int)) = false := by simp
      have gin : decide (i < i) = false := by simp
      obtain ⟨voa, vcap, vg, rfl, hsl, hpos⟩ := sl_of_own hO.out
      have HSL := Lib.hid hsl
      have HP := Lib.hid hpos
      clear hsl hpos
      go_wp2_with fail
      go_ret
      refine ⟨⟨_, rfl, voa, vcap, vg, 0, D, by rw [hD.out.1]; rfl, by rw [hD.out.2, ← HN.out, List.take_length], VsIn.made (by rw [hD.out.1]; exact hsm) (by rw [hD.out.1]; exact HSL.out) (fun h => by have := HP.out (by rw [← hD.out.1]; exact h); omega) (hS.out.anti fun b hb _ => Or.inl hb)⟩, hb.out⟩
set_option maxHeartbeats 1000000 in
theorem rtrim_any (h : Nat) (l : List Vl) (oa : Option Addr) (cap b o : Nat) (w : World) (hs : VsIn w h oa cap b o l) :
 Calls Tryz.prog 14 #[.slice oa l.length cap] w fun e w' => (∃ v, e = .returned v ∧ isVs (· < w.heap.size) h (trimV (l.map Vl.c)) v w') ∧ Below w.heap.size w w' := by
 have HT := Lib.hid (trimmed_any h l oa cap b o w hs)
 clear hs
 go_enter Tryz.func14, Tryz.ntmps14
 go_wp2_with fail
 ((with_reducible refine HT.out.mono ?_); rintro e w2 ⟨⟨oa', cap', o', rfl, hs⟩, hb⟩)
 have hC := copied_any h (trimL l) oa' cap' b o' w2 hs
 rw [trim_c] at hC
 have HC := Lib.hid hC
 have HB := Lib.hid hb
 clear hs hC HT hb
 generalize (trimL l).length = L at *
 go_wp2_with fail
 ((with_reducible refine HC.out.mono ?_); rintro e w3 ⟨⟨v, rfl, hv⟩, hb2⟩)
 have HV := Lib.hid (And.intro hv hb2)
 clear hv hb2
 go_wp2_with fail
 go_ret
 exact ⟨⟨_, rfl, HV.out.1.anti fun b hb => Or.inl (Nat.lt_of_lt_of_le hb HB.out.size)⟩, HB.out.trans (HV.out.2.mono HB.out.size)⟩
end Go.Proofs.YtplnhjmomomphaaGreatDoor

namespace Go.Proofs.YtplnhjmomomphaaGreatDoor
set_option linter.unusedVariables false
set_option linter.unusedSimpArgs false
open Go.RowKit
/-- so many cells are written, one behind the other -/
def puts (w : World) (g : Nat) : Nat → List Value → World
 | _, [] => w
 | o, v :: r => puts (w.setCell ⟨g, o, none⟩ v) g (o + 1) r
theorem grownBy_refl (w : World) (row : Option Nat) : w.grownBy w row := ⟨rfl, rfl, rfl, Nat.le_refl _, fun _ _ _ => rfl⟩
theorem grownBy_puts : ∀ (cs : List Value) (w : World) (g o : Nat), w.grownBy (puts w g o cs) (some g)
 | [], w, g, _ => grownBy_refl w _
 | v :: r, w, g, o => grownBy_trans (grownBy_set w ⟨g, o, none⟩ v) (grownBy_puts r _ g (o + 1))
theorem puts_size : ∀ (cs : List Value) (w : World) (g o : Nat), (puts w g o cs).heap.size = w.heap.size
 | [], _, _, _ => rfl
 | v :: r, w, g, o => (puts_size r _ g (o + 1)).trans (by simp)
/-- a cell of a row of the call's own is written -/
theorem owns_setAt {w : World} {base : Nat} {e : TypeId} {size n cap g : Nat} {xs : List Value} (h : w.ownsRow base e size (.slice (some ⟨g, 0, none⟩) n cap) n xs) {i : Nat} (hi : i < n * size) (u : Value) :
 (w.setCell ⟨g, i, none⟩ u).ownsRow base e size (.slice (some ⟨g, 0, none⟩) n cap) n (xs.set i u) := by
 rcases h.2 with ⟨h0, _⟩ | ⟨g', cap', cur, hv, hg, hc, h1, h2, h3, h4⟩
 · cases h0
 · obtain ⟨rfl, rfl⟩ : g = g' ∧ cap = cap' := by
    injection hv with e1 _ e2
    injection e1 with e1
    injection e1 with e1
    exact ⟨e1, e2⟩
   have hisz : i < cur.size := by
    rw [h3]
    exact Nat.lt_of_lt_of_le hi (Nat.mul_le_mul_right size h1)
   refine ⟨by rw [List.length_set]; exact h.1, Or.inr ⟨g, cap, cur.setIfInBounds i u, rfl, hg, ?_, h1, h2, by simpa using h3, ?_⟩⟩
   · have hb : Blk w g e cur := hc
     exact hb.put i u
   · rw [Array.toList_setIfInBounds, List.take_set, h4]
theorem owns_puts {base : Nat} {e : TypeId} {size n cap g : Nat} : ∀ (cs : List Value) (o : Nat) (w : World) (xs ys : List Value), w.ownsRow base e size (.slice (some ⟨g, 0, none⟩) n cap) n (xs ++ ys) → xs.length = o → ys.length = cs.length → o + cs.length ≤ n * size →
 (puts w g o cs).ownsRow base e size (.slice (some ⟨g, 0, none⟩) n cap) n (xs ++ cs)
 | [], o, w, xs, ys, h, _, hl, _ => by
   have : ys = [] := List.eq_nil_of_length_eq_zero hl
   subst this
   exact h
 | v :: r, o, w, xs, [], h, _, hl, _ => by cases hl
 | v :: r, o, w, xs, y :: ys, h, hx, hl, hn => by
   have h1 := owns_setAt h (i := o) (by simp at hn; omega) v
   have e : (xs ++ y :: ys).set o v = (xs ++ [v]) ++ ys := by
    rw [List.set_append, if_neg (by omega), hx, Nat.sub_self, List.set_cons_zero, List.append_assoc]
    rfl
   rw [e] at h1
   have h2 := owns_puts r (o + 1) _ (xs ++ [v]) ys h1 (by simp [hx]) (by simpa using hl) (by simp at hn ⊢; omega)
   rw [List.append_assoc] at h2
   exact h2
theorem owns_frozen {w : World} {base : Nat} {e : TypeId} {size n cap g : Nat} {xs : List Value} (h : w.ownsRow base e size (.slice (some ⟨g, 0, none⟩) n cap) n xs) (i : Nat) : w.frozen? ⟨g, i, none⟩ = false := by
 rcases h.2 with ⟨h0, _⟩ | ⟨g', cap', cur, hv, hg, hc, _⟩
 · cases h0
 · have : g = g' := by
    injection hv with e1 _ e2
    injection e1 with e1
    injection e1 with e1
   subst this
   have hb : Blk w g e cur := hc
   exact hb.frozen i
theorem owns_cell {w : World} {base : Nat} {e : TypeId} {size n cap g : Nat} {xs : List Value} (h : w.ownsRow base e size (.slice (some ⟨g, 0, none⟩) n cap) n xs) {i : Nat} {u : Value} (hu : xs[i]? = some u) : w.cell? ⟨g, i, none⟩ = some u := by
 rcases h.2 with ⟨h0, _⟩ | ⟨g', cap', cur, hv, hg, hc, h1, h2, h3, h4⟩
 · cases h0
 · have : g = g' := by
    injection hv with e1 _ e2
    injection e1 with e1
    injection e1 with e1
   subst this
   have hb : Blk w g e cur := hc
   rw [hb.cell i]
   have hj := (List.getElem?_eq_some_iff.1 hu).1
   rw [← h4, List.getElem?_take] at hu
   split at hu
   · simpa using hu
   · cases hu
theorem owns_lt {w : World} {base : Nat} {e : TypeId} {size n cap g : Nat} {xs : List Value} (h : w.ownsRow base e size (.slice (some ⟨g, 0, none⟩) n cap) n xs) : base ≤ g ∧ g < w.heap.size := h.lt g rfl
theorem owns_cap {w : World} {base : Nat} {e : TypeId} {size n cap g : Nat} {xs : List Value} (h : w.ownsRow base e size (.slice (some ⟨g, 0, none⟩) n cap) n xs) : n ≤ cap ∧ cap ≤ maxLen := by
 rcases h.2 with ⟨h0, _⟩ | ⟨g', cap', cur, hv, hg, hc, h1, h2, h3, h4⟩
 · cases h0
 · injection hv with _ _ e2
   subst e2
   exact ⟨h1, h2⟩
/-- the first of a row's elements are a row -/
theorem owns_take {w : World} {base : Nat} {e : TypeId} {size n cap g : Nat} {xs : List Value} (h : w.ownsRow base e size (.slice (some ⟨g, 0, none⟩) n cap) n xs) {k : Nat} (hk : k ≤ n) : w.ownsRow base e size (.slice (some ⟨g, 0, none⟩) k cap) k (xs.take (k * size)) := by
 have hks := Nat.mul_le_mul_right size hk
 rcases h.2 with ⟨h0, _⟩ | ⟨g', cap', cur, hv, hg, hc, h1, h2, h3, h4⟩
 · cases h0
 · obtain ⟨rfl, rfl⟩ : g = g' ∧ cap = cap' := by
    injection hv with e1 _ e2
    injection e1 with e1
    injection e1 with e1
    exact ⟨e1, e2⟩
   refine ⟨by rw [List.length_take, h.1]; omega, Or.inr ⟨g, cap, cur, rfl, hg, hc, by omega, h2, h3, ?_⟩⟩
   rw [← h4, List.take_take, Nat.min_eq_left hks]
/-- rows of elements of two types are two rows -/
theorem owns_apart {w : World} {base base' : Nat} {e e' : TypeId} {size size' : Nat} {v v' : Value} {n n' : Nat} {xs xs' : List Value} (h : w.ownsRow base e size v n xs) (h' : w.ownsRow base' e' size' v' n' xs') (he : e ≠ e') {g : Nat} (hg : v.ownBlock = some g) : v'.ownBlock ≠ some g := by
 intro hg'
 rcases h.2 with ⟨h0, _⟩ | ⟨g1, cap1, cur1, hv, _, hc, _⟩
 · subst h0; cases hg
 · rcases h'.2 with ⟨h0, _⟩ | ⟨g2, cap2, cur2, hv', _, hc', _⟩
   · subst h0; cases hg'
   · subst hv hv'
     obtain rfl := Option.some.inj hg
     obtain rfl := Option.some.inj hg'
     simp only at hc hc'
     rw [hc] at hc'
     injection hc' with hc'
     injection hc' with _ hc' _
     exact he hc'
/-- a block that is known whole is no row of elements of another type -/
theorem blk_apart {w : World} {base : Nat} {e t : TypeId} {size : Nat} {v : Value} {n : Nat} {xs : List Value} {B : Nat} {cs : Array Value} (hB : Blk w B t cs) (h : w.ownsRow base e size v n xs) (he : e ≠ t) : v.ownBlock ≠ some B := by
 intro hg'
 rcases h.2 with ⟨h0, _⟩ | ⟨g2, cap2, cur2, hv', _, hc', _⟩
 · subst h0; cases hg'
 · subst hv'
   obtain rfl := Option.some.inj hg'
   unfold Blk at hB
   rw [hB] at hc'
   injection hc' with hc'
   injection hc' with _ hc' _
   exact he hc'.symm
/-- what is open: its token, the slice of what stands in it, that -/
structure Fm where
 t : Tk
 v : Value
 kids : List Vl
def fmcells (f : Fm) : List Value := tkcells f.t ++ [f.v]
theorem fmcells_length (f : Fm) : (fmcells f).length = 7 := rfl
def skC (S : List Fm) : List (Tk × List Vt) := (S.map fun x => (x.t, x.kids.map Vl.c)).reverse
/-- the blocks that the stack may write -/
def skA (B : Nat) (vs : Value) (S : List Fm) (b : Nat) : Prop := b < B ∨ vs.ownBlock = some b ∨ ∃ x ∈ S, x.v.ownBlock = some b
structure Sk (B : Nat) (w : World) (vs : Value) (S : List Fm) (K : Nat) : Prop where
 row : w.ownsRow B 77 7 vs S.length (S.flatMap fmcells)
 kid : ∀ x ∈ S, w.ownsRow B 44 7 x.v x.kids.length (x.kids.flatMap vcells)
 apart : S.Pairwise fun x y => ∀ g, x.v.ownBlock = some g → y.v.ownBlock ≠ some g
 t64 : ∀ x ∈ S, Tk64 x.t
 len : ∀ x ∈ S, x.kids.length ≤ K
 safe : ∃ h, Safe (skA B vs S) w fun w => ∀ x ∈ S, ∀ k ∈ x.kids, VlIn w h k
section
variable {B K : Nat} {w w' : World} {vs : Value} {S R : List Fm}
theorem Sk.grown (h : Sk B w vs S K) {row : Option Nat} (hg : w.grownBy w' row) (hr : ∀ k, row = some k → (k < B ∨ w.heap.size ≤ k)) : Sk B w' vs S K := by
 have hk : ∀ {e : TypeId} {size : Nat} {v : Value} {n : Nat} {xs : List Value}, w.ownsRow B e size v n xs → w'.ownsRow B e size v n xs := fun ho => ho.kept hg (by
  cases hv : (_ : Value).ownBlock with
  | none => exact .inl rfl
  | some k => exact .inr (fun e => by have := ho.lt k hv; have := hr k e.symm; omega))
 obtain ⟨h0, hs⟩ := h.safe
 refine ⟨hk h.row, fun x hx => hk (h.kid x hx), h.apart, h.t64, h.len, h0, (hs.wide (A' := fun b => skA B vs S b ∨ w.heap.size ≤ b) fun b hb => hb).grown hg (fun k hk hl => ?_) |>.anti fun b hb _ => Or.inl hb⟩
 rcases hr k hk with h1 | h1
 · exact Or.inl (Or.inl h1)
 · exact Or.inr h1
theorem Sk.below (h : Sk B w vs S K) (hb : Below w.heap.size w w') : Sk B w' vs S K := h.grown (grownBy_of_below hb none) (fun _ e => by cases e)
theorem Sk.mono (h : Sk B w vs S K) {K' : Nat} (hK : K ≤ K') : Sk B w vs S K' := ⟨h.row, h.kid, h.apart, h.t64, fun x hx => Nat.le_trans (h.len x hx) hK, h.safe⟩
/-- the innermost is taken off: it is a value -/
theorem Sk.pop {gs cap : Nat} {f : Fm} (h : Sk B w (.slice (some ⟨gs, 0, none⟩) (R.length + 1) cap) (R ++ [f]) K) (hK : K * 72 ≤ 140737488355328) :
 Sk B w (.slice (some ⟨gs, 0, none⟩) R.length cap) R K ∧ ∃ (oa : Option Addr) (c g hh : Nat), f.v = .slice oa f.kids.length c ∧ Safe (skA B (.slice (some ⟨gs, 0, none⟩) R.length cap) R) w fun w => VlIn w hh (.mk f.t oa g 0 c f.kids) := by
 obtain ⟨h0, hs⟩ := h.safe
 have hsub : ∀ x ∈ R, x ∈ R ++ [f] := fun x hx => List.mem_append_left _ hx
 have hfm : f ∈ R ++ [f] := List.mem_append_right _ (List.mem_singleton.2 rfl)
 have hA : ∀ b, skA B (.slice (some ⟨gs, 0, none⟩) R.length cap) R b → skA B (.slice (some ⟨gs, 0, none⟩) (R.length + 1) cap) (R ++ [f]) b := fun b hb => by
  rcases hb with hb | hb | ⟨x, hx, hb⟩
  · exact Or.inl hb
  · exact Or.inr (Or.inl hb)
  · exact Or.inr (Or.inr ⟨x, hsub x hx, hb⟩)
 have hap := List.pairwise_append.1 h.apart
 have hrow := h.row
 rw [List.length_append, List.length_singleton] at hrow
 have hkf := h.kid f hfm
 refine ⟨⟨?_, fun x hx => h.kid x (hsub x hx), hap.1, fun x hx => h.t64 x (hsub x hx), fun x hx => h.len x (hsub x hx), h0, (hs.anti fun b hb _ => hA b hb).mono fun _ hw x hx => hw x (hsub x hx)⟩, ?_⟩
 · have := owns_take hrow (k := R.length) (by omega)
   rw [List.flatMap_append, List.take_append_of_le_length (by rw [flat_length fmcells_length]; exact Nat.le_refl _), List.take_of_length_le (by rw [flat_length fmcells_length]; exact Nat.le_refl _)] at this
   exact this
 · obtain ⟨oa, c, g, hv, hsl, hg⟩ := sl_of_own hkf
   refine ⟨oa, c, g, h0 + 1, hv, VlIn.made (h.t64 f hfm) (VsIn.made (by have := h.len f hfm; omega) hsl (fun hp hb => ?_) ((hs.anti fun b hb _ => hA b hb).mono fun _ hw x hx => hw f hfm x hx))⟩
   obtain ⟨hoa, hgl⟩ := hsl.lies hp
   have hfo : f.v.ownBlock = some g := by rw [hv, hoa]; rfl
   rcases hb with hb | hb | ⟨x, hx, hb⟩
   · have := hg hp; omega
   · exact owns_apart hkf hrow (by decide) hfo hb
   · exact hap.2.2 x hx f (List.mem_singleton.2 rfl) g hb hfo
/-- one more stands in the innermost -/
theorem Sk.kidPut {f : Fm} {k : Vl} {v' : Value} {gg : Nat} (h : Sk B w vs (R ++ [f]) K) (hk : ∃ h, Safe (skA B vs (R ++ [f])) w fun w => VlIn w h k)
 (hv' : v'.ownBlock = some gg) (hat : f.v.ownBlock = some gg ∨ w.heap.size ≤ gg)
 (hsz : w.heap.size ≤ w'.heap.size) (hblk : ∀ b, b < w.heap.size → vs.ownBlock ≠ some b → f.v.ownBlock ≠ some b → w'.heap[b]? = w.heap[b]?)
 (hrow : w'.ownsRow B 77 7 vs (R.length + 1) (R.flatMap fmcells ++ (tkcells f.t ++ [v'])))
 (hkid : w'.ownsRow B 44 7 v' (f.kids.length + 1) (f.kids.flatMap vcells ++ vcells k)) : Sk B w' vs (R ++ [⟨f.t, v', f.kids ++ [k]⟩]) (K + 1) := by
 obtain ⟨h1, hs⟩ := h.safe
 obtain ⟨h2, hs2⟩ := hk
 have hfm : f ∈ R ++ [f] := List.mem_append_right _ (List.mem_singleton.2 rfl)
 have hsub : ∀ x ∈ R, x ∈ R ++ [f] := fun x hx => List.mem_append_left _ hx
 have hap := List.pairwise_append.1 h.apart
 have hrest : ∀ x ∈ R, ∀ g, x.v.ownBlock = some g → w'.heap[g]? = w.heap[g]? := fun x hx g hg => by
  refine hblk g ((h.kid x (hsub x hx)).lt g hg).2 (fun e => ?_) (fun e => hap.2.2 x hx f (List.mem_singleton.2 rfl) g hg e)
  exact owns_apart (h.kid x (hsub x hx)) h.row (by decide) hg e
 have hgg : ∀ b, skA B vs (R ++ [⟨f.t, v', f.kids ++ [k]⟩]) b → skA B vs (R ++ [f]) b ∨ w.heap.size ≤ b := fun b hb => by
  rcases hb with hb | hb | ⟨x, hx, hb⟩
  · exact Or.inl (Or.inl hb)
  · exact Or.inl (Or.inr (Or.inl hb))
  · rcases List.mem_append.1 hx with hx | hx
    · exact Or.inl (Or.inr (Or.inr ⟨x, hsub x hx, hb⟩))
    · obtain rfl := List.mem_singleton.1 hx
      simp only [hv', Option.some.injEq] at hb
      subst hb
      rcases hat with hat | hat
      · exact Or.inl (Or.inr (Or.inr ⟨f, hfm, hat⟩))
      · exact Or.inr hat
 have hboth : Safe (skA B vs (R ++ [⟨f.t, v', f.kids ++ [k]⟩])) w' fun w => (∀ x ∈ R ++ [f], ∀ k ∈ x.kids, VlIn w h1 k) ∧ VlIn w h2 k := fun w2 g1 g2 => by
  have key : ∀ b, b < w.heap.size → ¬ skA B vs (R ++ [f]) b → w2.heap[b]? = w.heap[b]? := fun b hb hn => by
   refine (g2 b (by omega) fun hb2 => ?_).trans (hblk b hb (fun e => hn (Or.inr (Or.inl e))) (fun e => hn (Or.inr (Or.inr ⟨f, hfm, e⟩))))
   rcases hgg b hb2 with h3 | h3
   · exact hn h3
   · omega
  exact ⟨hs w2 (by omega) key, hs2 w2 (by omega) key⟩
 refine ⟨?_, fun x hx => ?_, ?_, fun x hx => ?_, fun x hx => ?_, max h1 h2, hboth.mono fun w3 hw x hx y hy => ?_⟩
 · rw [List.flatMap_append, List.length_append, List.flatMap_singleton]
   exact hrow
 · rcases List.mem_append.1 hx with hx | hx
   · have ho := h.kid x (hsub x hx)
     refine ⟨ho.1, ?_⟩
     rcases ho.2 with h0 | ⟨g, cap, cur, hv, hg, hc, rest⟩
     · exact .inl h0
     · exact .inr ⟨g, cap, cur, hv, hg, (hrest x hx g (by rw [hv]; rfl)).trans hc, rest⟩
   · obtain rfl := List.mem_singleton.1 hx
     simp only [List.length_append, List.length_singleton, List.flatMap_append, List.flatMap_singleton]
     exact hkid
 · refine List.pairwise_append.2 ⟨hap.1, List.pairwise_singleton _ _, fun x hx y hy g hg => ?_⟩
   obtain rfl := List.mem_singleton.1 hy
   simp only [hv']
   intro e
   obtain rfl := Option.some.inj e
   rcases hat with hat | hat
   · exact hap.2.2 x hx f (List.mem_singleton.2 rfl) _ hg hat
   · have := ((h.kid x (hsub x hx)).lt _ hg).2; omega
 · rcases List.mem_append.1 hx with hx | hx
   · exact h.t64 x (hsub x hx)
   · obtain rfl := List.mem_singleton.1 hx
     exact h.t64 f hfm
 · rcases List.mem_append.1 hx with hx | hx
   · exact Nat.le_succ_of_le (h.len x (hsub x hx))
   · obtain rfl := List.mem_singleton.1 hx
     have := h.len f hfm
     simp only [List.length_append, List.length_singleton]
     omega
 · rcases List.mem_append.1 hx with hx | hx
   · exact (hw.1 x (hsub x hx) y hy).mono _ _ (Nat.le_max_left _ _)
   · obtain rfl := List.mem_singleton.1 hx
     rcases List.mem_append.1 hy with hy | hy
     · exact (hw.1 f hfm y hy).mono _ _ (Nat.le_max_left _ _)
     · obtain rfl := List.mem_singleton.1 hy
       exact hw.2.mono _ _ (Nat.le_max_right _ _)
/-- one more is opened -/
theorem Sk.open {t : Tk} {vs' : Value} {gg : Nat} (h : Sk B w vs S K) (ht : Tk64 t) (hv' : vs'.ownBlock = some gg) (hat : vs.ownBlock = some gg ∨ w.heap.size ≤ gg) (hg : w.grownBy w' vs.ownBlock)
 (hrow : w'.ownsRow B 77 7 vs' (S.length + 1) (S.flatMap fmcells ++ (tkcells t ++ [.slice none 0 0]))) : Sk B w' vs' (S ++ [⟨t, .slice none 0 0, []⟩]) K := by
 obtain ⟨h1, hs⟩ := h.safe
 have hA : ∀ b, skA B vs' (S ++ [⟨t, .slice none 0 0, []⟩]) b → skA B vs S b ∨ w.heap.size ≤ b := fun b hb => by
  rcases hb with hb | hb | ⟨x, hx, hb⟩
  · exact Or.inl (Or.inl hb)
  · rw [hv'] at hb
    obtain rfl := Option.some.inj hb
    rcases hat with hat | hat
    · exact Or.inl (Or.inr (Or.inl hat))
    · exact Or.inr hat
  · rcases List.mem_append.1 hx with hx | hx
    · exact Or.inl (Or.inr (Or.inr ⟨x, hx, hb⟩))
    · obtain rfl := List.mem_singleton.1 hx
      cases hb
 refine ⟨?_, fun x hx => ?_, ?_, fun x hx => ?_, fun x hx => ?_, h1, ?_⟩
 · rw [List.flatMap_append, List.length_append, List.flatMap_singleton]
   exact hrow
 · rcases List.mem_append.1 hx with hx | hx
   · refine (h.kid x hx).kept hg ?_
     cases hv : x.v.ownBlock with
     | none => exact .inl rfl
     | some k => exact .inr (fun e => owns_apart (h.kid x hx) h.row (by decide) hv e.symm)
   · obtain rfl := List.mem_singleton.1 hx
     exact World.ownsRow_nil _ _ _ _
 · refine List.pairwise_append.2 ⟨h.apart, List.pairwise_singleton _ _, fun x hx y hy g hg => ?_⟩
   obtain rfl := List.mem_singleton.1 hy
   intro e; cases e
 · rcases List.mem_append.1 hx with hx | hx
   · exact h.t64 x hx
   · obtain rfl := List.mem_singleton.1 hx
     exact ht
 · rcases List.mem_append.1 hx with hx | hx
   · exact h.len x hx
   · obtain rfl := List.mem_singleton.1 hx
     exact Nat.zero_le _
 · have h2 := (hs.wide (A' := fun b => skA B vs S b ∨ w.heap.size ≤ b) fun b hb => hb).grown hg (fun k hk _ => Or.inl (Or.inr (Or.inl hk)))
   refine (h2.anti fun b hb _ => hA b hb).mono fun _ hw x hx y hy => ?_
   rcases List.mem_append.1 hx with hx | hx
   · exact hw x hx y hy
   · obtain rfl := List.mem_singleton.1 hx
     cases hy
end
end Go.Proofs.YtplnhjmomomphaaGreatDoor

namespace Go.Proofs.YtplnhjmomomphaaGreatDoor
set_option linter.unusedVariables false
set_option linter.unusedSimpArgs false
theorem strip_fst (b : Nat) : ∀ (k n : Nat), (stripF b k n).1 ≤ n
 | 0, _ => Nat.le_refl _
 | k + 1, n => by
   rw [stripF]
   split
   · exact Nat.le_trans (strip_fst b k (n / b)) (Nat.div_le_self _ _)
   · exact Nat.le_refl _
theorem up_max {b k d x : Nat} (hb : 2 ≤ b) (hd : 1 ≤ d) (h2 : d ≤ 9223372036854775807) (h : upF b k d = some x) : x ≤ 9223372036854775807 := by
 rw [upF_eq b hb k d hd h2] at h
 split at h
 · obtain rfl := Option.some.inj h
   assumption
 · cases h
theorem is64_two (neg : Bool) {a d : Nat} (ha : a ≤ 9223372036854775807) (hd : d ≤ 9223372036854775807) : Is64 ((if neg then -(a : Int) else (a : Int)), (d : Int)) := by
 unfold Is64
 cases neg <;> simp <;> omega
theorem is64_scale {neg : Bool} {num : Nat} {q : Int} (h : num ≤ 9223372036854775807) : Is64 (scaleF neg num q) := by
 unfold scaleF
 split
 · rename_i hq
   rw [tenF_eq _ _ (by omega)]
   by_cases hm : num * 10 ^ q.toNat ≤ 9223372036854775807
   · rw [if_pos hm]
     exact is64_two neg hm (by decide)
   · rw [if_neg hm]
     exact is64_over
 · generalize (-q).toNat = k at *
   have s1 := strip_fst 2 k num
   have s2 := strip_fst 5 k (stripF 2 k num).1
   cases hu : upF 2 (stripF 2 k num).2 1 with
   | none => exact is64_over
   | some d1 =>
     have h1 := up_max (by decide) (by decide) (by decide) hu
     have h2 := up_pos (by decide) (by decide) hu
     rw [Option.bind_some]
     cases hv : upF 5 (stripF 5 k (stripF 2 k num).1).2 d1 with
     | none => exact is64_over
     | some d2 =>
       have h3 := up_max (by decide) h2 h1 hv
       exact is64_two neg (by omega) h3
theorem is64_decimal (s : List UInt8) : Is64 (decimalF s).1 := by
 cases hp : partsF s with
 | none => rw [decimal_none hp]; exact is64_over
 | some x =>
   obtain ⟨neg, ds, k, e, w⟩ := x
   rw [decimal_some hp]
   have hall := (parts_bounds hp).1
   show Is64 (valueF neg ds (e - k))
   unfold valueF
   by_cases hd : ds.dropWhile (· == 48) = []
   · rw [if_pos hd]
     unfold Is64
     decide
   · rw [if_neg hd]
     by_cases h18 : 18 < (trimR (ds.dropWhile (· == 48))).length
     · rw [if_pos h18]
       exact is64_over
     · rw [if_neg h18]
       exact is64_scale (by have := core_val hall hd (by omega); omega)
theorem nameG_lens (l : List Int) : ∀ (f i : Nat), (nameG l f i).1.length ≤ f
 | 0, _ => Nat.le_refl _
 | f + 1, i => by
   rw [nameG]
   split
   · have := nameG_lens l f (i + 1)
     simp only [List.length_cons]; omega
   · split
     · have := nameG_lens l f (takenF l (i + 1)).2
       simp only [List.length_cons]; omega
     · simp
theorem urlG_len (l : List Int) : ∀ (f i : Nat) (s : List Int), (urlG l f i).1 = some s → s.length ≤ f
 | 0, _, _, h => by cases h
 | f + 1, i, s, h => by
   rw [urlG] at h
   split at h
   · obtain rfl := Option.some.inj h
     simp
   · split at h
     · split at h
       · cases h
       · have := urlG_len l f _ s h
         omega
     · split at h
       · cases h
       · split at h
         · split at h
           · obtain ⟨t, ht, rfl⟩ := Option.map_eq_some_iff.1 h
             have := urlG_len l f _ t ht
             simp only [List.length_cons]; omega
           · cases h
         · obtain ⟨t, ht, rfl⟩ := Option.map_eq_some_iff.1 h
           have := urlG_len l f _ t ht
           simp only [List.length_cons]; omega
theorem textG_len (l : List Int) (sign : Int) : ∀ (f i : Nat) (s : List Int), (textG l sign f i).1 = some s → s.length ≤ f
 | 0, _, _, h => by cases h
 | f + 1, i, s, h => by
   rw [textG] at h
   split at h
   · cases h
   · split at h
     · split at h
       · have := textG_len l sign f _ s h
         omega
       · split at h
         · have := textG_len l sign f _ s h
           omega
         · obtain ⟨t, ht, rfl⟩ := Option.map_eq_some_iff.1 h
           have := textG_len l sign f _ t ht
           simp only [List.length_cons]; omega
     · split at h
       · obtain rfl := Option.some.inj h
         simp
       · obtain ⟨t, ht, rfl⟩ := Option.map_eq_some_iff.1 h
         have := textG_len l sign f _ t ht
         simp only [List.length_cons]; omega
theorem i64_k {k : Int} (h : 0 ≤ k ∧ k ≤ 24) : I64 k := by
 unfold I64
 omega
theorem tok0_64 {k : Int} {s : List UInt8} (hk : 0 ≤ k ∧ k ≤ 24) (hs : s.length ≤ 9223372036854775807) : Tk64 (tok0 k s) := by
 exact ⟨i64_k hk, is64_over, hs⟩
theorem name_64 {l : List Int} (hl : l.length ≤ 1099511627776) (i : Nat) : (nameF l i).1.length ≤ 9223372036854775807 := by
 have h1 := nameG_lens l (l.length + 2 - i) i
 have h2 := encF_len (nameG l (l.length + 2 - i) i).1
 show (encF (nameG l (l.length + 2 - i) i).1).length ≤ _
 omega
theorem url_64 {l : List Int} (hl : l.length ≤ 1099511627776) (i : Nat) : Tk64 (urlF l i).1 := by
 unfold urlF urlT
 split
 · exact tok0_64 (by decide) (by simp)
 · rename_i s hs
   have h1 := urlG_len l _ _ s hs
   have h2 := encF_len s
   exact tok0_64 (by decide) (by omega)
theorem str_64 {l : List Int} (hl : l.length ≤ 1099511627776) (sign : Int) (i : Nat) : Tk64 (stringF l sign i).1 := by
 unfold stringF strT
 split
 · exact tok0_64 (by decide) (by simp)
 · rename_i s hs
   have h1 := textG_len l sign _ _ s hs
   have h2 := encF_len s
   exact tok0_64 (by decide) (by omega)
theorem word_64 {l : List Int} (hl : l.length ≤ 1099511627776) {s : List UInt8} (hs : s.length ≤ 9223372036854775807) (j : Nat) : Tk64 (wordT l s j).1 := by
 unfold wordT
 simp only
 repeat' split
 all_goals first
  | exact tok0_64 (k := 1) (by decide) hs
  | exact tok0_64 (k := 2) (by decide) hs
  | exact url_64 hl _
theorem fig_64 {l : List Int} (hl : l.length ≤ 1099511627776) (i : Nat) : Tk64 (figureF l i).1 := by
 have hd := is64_decimal (encF ((l.drop i).take (figE l i - i)))
 unfold figureF
 simp only
 split
 · exact ⟨i64_k (k := 12) (by decide), hd, name_64 hl _⟩
 · split
   · exact ⟨i64_k (k := 11) (by decide), hd, by simp⟩
   · exact ⟨i64_k (k := 10) (by decide), hd, by simp⟩
theorem single_le {c k : Int} (h : singleF c = some k) : 0 ≤ k ∧ k ≤ 24 := by
 unfold singleF at h
 repeat' split at h
 all_goals first | (obtain rfl := Option.some.inj h; decide) | cases h
theorem next_64 {l : List Int} (hl : l.length ≤ 1099511627776) (i : Nat) : Tk64 (nextF l i).1 := by
 unfold nextF
 split
 · rename_i k hk
   exact tok0_64 (single_le hk) (by simp)
 · split
   · exact tok0_64 (by decide) (by simp)
   · split
     · exact str_64 hl _ _
     · split
       · exact ⟨i64_k (k := 4) (by decide), is64_over, name_64 hl _⟩
       · split
         · exact fig_64 hl i
         · split
           · exact tok0_64 (by decide) (by simp)
           · split
             · exact tok0_64 (by decide) (by simp)
             · split
               · exact tok0_64 (by decide) (name_64 hl _)
               · split
                 · exact word_64 hl (name_64 hl _) _
                 · exact tok0_64 (by decide) (by have := encF_len [aF l i]; simp only [List.length_singleton] at this; omega)
theorem tokG_64 {l : List Int} (hl : l.length ≤ 1099511627776) : ∀ (f i : Nat), ∀ t ∈ tokG l f i, Tk64 t
 | 0, _, t, h => by cases h
 | f + 1, i, t, h => by
   rw [tokG] at h
   split at h
   · cases h
   · rcases List.mem_cons.1 h with h | h
     · rw [h]; exact next_64 hl _
     · exact tokG_64 hl f _ t h
theorem tokG_len (l : List Int) : ∀ (f i : Nat), (tokG l f i).length ≤ f
 | 0, _ => Nat.le_refl _
 | f + 1, i => by
   rw [tokG]
   split
   · simp
   · have := tokG_len l f (nextF l (remF l i)).2
     simp only [List.length_cons]; omega
theorem bytes_64 {b : List UInt8} (hb : b.length ≤ 4294967296) : (∀ t ∈ bytesF b, Tk64 t) ∧ (bytesF b).length ≤ 274877906944 := by
 have h := decodeF_len b
 refine ⟨tokG_64 (by omega) _ _, ?_⟩
 have h2 := tokG_len (decodeF b) ((decodeF b).length + 2) 0
 show (tokG (decodeF b) ((decodeF b).length + 2) 0).length ≤ _
 omega
end Go.Proofs.YtplnhjmomomphaaGreatDoor

namespace Go.Proofs.YtplnhjmomomphaaGreatDoor
set_option linter.unusedVariables false
set_option linter.unusedSimpArgs false
open Go.ChangeShapes Go.WideShapes Go.ChangeAt Go.RowKit Go.Deep
section
variable {H : Type} {enc : TypeId × Value → H} {w : World} {base : Nat} {spare : Nat → Bool} {held : Bool}
end
theorem reach_le {n : Nat} (h : n ≤ reachBytes) : n ≤ 140737488355328 := Nat.le_trans h (by decide)
theorem reach_of {H : Type} {P : Program} {ts : List TypeId} {ds : List (DataW H)} (h : (DataW.weightsEach P ts ds).all (· ≤ reachBytes) = true) {j : Nat} {t : TypeId} {d : DataW H} (ht : ts[j]? = some t) (hd : ds[j]? = some d) : ∀ n ∈ d.weights P t, n ≤ 140737488355328 := fun n hn =>
 reach_le (by simpa using List.all_eq_true.1 h n (DataW.weights_mem_each ht hd n hn))
end Go.Proofs.YtplnhjmomomphaaGreatDoor
