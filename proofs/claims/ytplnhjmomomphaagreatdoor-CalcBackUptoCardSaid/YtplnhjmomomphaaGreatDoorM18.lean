/- Of my texts: Tree, MayE, MayF. -/
import Derived.Test.YtplnhjmomomphaaGreatDoorM05
import Derived.Test.YtplnhjmomomphaaGreatDoorM17
import Derived.Deep.LoopGhost
import Derived.Deep.CutBlock
import Derived.Deep.DeepCutAuto
namespace Go.Proofs.YtplnhjmomomphaaGreatDoor
set_option linter.unusedVariables false
set_option linter.unusedSimpArgs false
open Go.RowKit
/-- an expression, with the place of its kids -/
inductive Ex where
 | mk (k n d u : Int) (oa : Option Addr) (b o cap : Nat) (kids : List Ex)
/-- its cells -/
def xcells : Ex → List Value
 | .mk k n d u oa _ _ cap kids => [.int .i64 k, .int .i64 n, .int .i64 d, .int .i64 u, .slice oa kids.length cap]
def xv (e : Ex) : Value := .agg (xcells e).toArray
/-- a number of 64 bits -/
def I64 (x : Int) : Prop := -9223372036854775808 ≤ x ∧ x ≤ 9223372036854775807
/-- the expression lies in the world; its height is below h -/
def ExIn (w : World) : Nat → Ex → Prop
 | 0, _ => False
 | h + 1, .mk k n d u oa b o cap kids => I64 k ∧ Is64 (n, d) ∧ I64 u ∧ kids.length ≤ cap ∧ cap ≤ maxLen ∧ kids.length * 56 ≤ 140737488355328 ∧ (0 < kids.length → oa = some ⟨b, o, none⟩ ∧ b < w.heap.size) ∧
   ∀ i x, kids[i]? = some x → (∀ j v, (xcells x)[j]? = some v → w.cell? ⟨b, o + i * 5 + j, none⟩ = some v) ∧ ExIn w h x
theorem ExIn.below : ∀ (h : Nat) {e : Ex} {w w' : World}, ExIn w h e → Below w.heap.size w w' → ExIn w' h e
 | 0, _, _, _, h, _ => h.elim
 | h + 1, .mk k n d u oa b o cap kids, w, w', hx, hb => by
   obtain ⟨h1, h2, h3, h4, h5, h6, h7, h8⟩ := hx
   refine ⟨h1, h2, h3, h4, h5, h6, fun hl => ⟨(h7 hl).1, Nat.lt_of_lt_of_le (h7 hl).2 hb.size⟩, fun i x hi => ⟨fun j v hv => ?_, ExIn.below h (h8 i x hi).2 hb⟩⟩
   have hpos : 0 < kids.length := by have := (List.getElem?_eq_some_iff.1 hi).1; omega
   exact (hb.cell (p := ⟨b, o + i * 5 + j, none⟩) (h7 hpos).2).trans ((h8 i x hi).1 j v hv)
theorem ExIn.grow {h : Nat} {e : Ex} {w : World} (hx : ExIn w h e) (m : Ext w) : ExIn (grow w m) h e := hx.below h (grow_below m)
def arity (k : Int) (n : Nat) : Bool :=
 if k = 2 ∨ k = 4 ∨ k = 6 ∨ k = 7 then decide (1 ≤ n) else if k = 3 ∨ k = 5 then decide (n = 1) else if k = 8 then decide (n = 3) else false
/-- which expressions may be, so many levels -/
def mayE : Nat → Ex → Bool
 | 0, _ => false
 | f + 1, .mk k n d u _ _ _ _ kids => if k = 1 then decide (kids.length = 0) && mayB (n, d) && decide (0 ≤ u) && decide (u ≤ 7)
    else (decide (n = 0) && decide (d = 0)) && decide (u = 0) && arity k kids.length && kids.all (mayE f)
/-- a leaf -/
structure Lf where
 kind : Int
 truth : Int
 name : ByteArray
 op : Int
 ex : Ex
 word : ByteArray
 value : ByteArray
 any : Bool
def lcells (l : Lf) : List Value := [.int .i64 l.kind, .int .i64 l.truth, .string l.name, .int .i64 l.op] ++ xcells l.ex ++ [.string l.word, .string l.value, .bool l.any]
def LfIn (w : World) (h : Nat) (l : Lf) : Prop := I64 l.kind ∧ I64 l.truth ∧ I64 l.op ∧ ExIn w h l.ex
theorem LfIn.below {w w' : World} {h : Nat} {l : Lf} (hl : LfIn w h l) (hb : Below w.heap.size w w') : LfIn w' h l := ⟨hl.1, hl.2.1, hl.2.2.1, hl.2.2.2.below h hb⟩
/-- a condition, with the place of its kids -/
inductive Cd where
 | mk (k : Int) (oa : Option Addr) (b o cap : Nat) (kids : List Cd) (leaf : Lf)
def ccells : Cd → List Value
 | .mk k oa _ _ cap kids leaf => [.int .i64 k, .slice oa kids.length cap] ++ lcells leaf
/-- the condition lies in the world; its height is below h -/
def CdIn (w : World) : Nat → Cd → Prop
 | 0, _ => False
 | h + 1, .mk k oa b o cap kids leaf => I64 k ∧ LfIn w h leaf ∧ kids.length ≤ cap ∧ cap ≤ maxLen ∧ kids.length * 8 ≤ 140737488355328 ∧ (0 < kids.length → oa = some ⟨b, o, none⟩ ∧ b < w.heap.size) ∧
   ∀ i x, kids[i]? = some x → (∀ j v, (ccells x)[j]? = some v → w.cell? ⟨b, o + i * 14 + j, none⟩ = some v) ∧ CdIn w h x
theorem CdIn.below : ∀ (h : Nat) {e : Cd} {w w' : World}, CdIn w h e → Below w.heap.size w w' → CdIn w' h e
 | 0, _, _, _, h, _ => h.elim
 | h + 1, .mk k oa b o cap kids leaf, w, w', hx, hb => by
   obtain ⟨h1, h2, h4, h5, h6, h7, h8⟩ := hx
   refine ⟨h1, h2.below hb, h4, h5, h6, fun hl => ⟨(h7 hl).1, Nat.lt_of_lt_of_le (h7 hl).2 hb.size⟩, fun i x hi => ⟨fun j v hv => ?_, CdIn.below h (h8 i x hi).2 hb⟩⟩
   have hpos : 0 < kids.length := by have := (List.getElem?_eq_some_iff.1 hi).1; omega
   exact (hb.cell (p := ⟨b, o + i * 14 + j, none⟩) (h7 hpos).2).trans ((h8 i x hi).1 j v hv)
end Go.Proofs.YtplnhjmomomphaaGreatDoor

namespace Go.Proofs.YtplnhjmomomphaaGreatDoor
set_option linter.unusedVariables false
set_option linter.unusedSimpArgs false
open Go.RowKit
theorem all_drop {α : Type} {p : α → Bool} {l : List α} {i : Nat} {x : α} (h : l[i]? = some x) : (l.drop i).all p = (p x && (l.drop (i + 1)).all p) := by
 obtain ⟨hi, rfl⟩ := List.getElem?_eq_some_iff.1 h
 rw [List.drop_eq_getElem_cons hi, List.all_cons]
theorem arity_many {k : Int} {L : Nat} (h : k = 2 ∨ k = 4 ∨ k = 6 ∨ k = 7) : arity k L = decide ((1 : Int) ≤ L) := by
 unfold arity
 rw [if_pos h, Bool.eq_iff_iff]; simp only [decide_eq_true_eq]; omega
theorem arity_one {k : Int} {L : Nat} (h : k = 3 ∨ k = 5) : arity k L = ((L : Int) == 1) := by
 unfold arity
 rw [if_neg (by omega), if_pos h, Bool.eq_iff_iff]; simp; omega
theorem arity_three {k : Int} {L : Nat} (h : k = 8) : arity k L = ((L : Int) == 3) := by
 unfold arity
 rw [if_neg (by omega), if_neg (by omega), if_pos h, Bool.eq_iff_iff]; simp; omega
theorem arity_none {k : Int} {L : Nat} (h1 : ¬ (k = 2 ∨ k = 4 ∨ k = 6 ∨ k = 7)) (h2 : ¬ (k = 3 ∨ k = 5)) (h3 : ¬ k = 8) : arity k L = false := by
 unfold arity
 rw [if_neg h1, if_neg h2, if_neg h3]
theorem xv_mk (k n d u : Int) (oa : Option Addr) (b o cap : Nat) (kids : List Ex) : xv (.mk k n d u oa b o cap kids) = .agg #[.int .i64 k, .int .i64 n, .int .i64 d, .int .i64 u, .slice oa kids.length cap] := rfl
/-- where the program's loop over the kids stands -/
structure Gk (w wr : World) (tx : TypeId) (cs : Array Value) : Prop where
 below : Below w.heap.size w wr
 box : Blk wr w.heap.size tx cs
set_option maxRecDepth 20000 in
set_option maxHeartbeats 4000000 in
theorem cmay_any : ∀ (f h : Nat) (e : Ex) (w : World) (D : Int), D = 341 - (f : Int) → f ≤ 340 → ExIn w h e →
 Calls Tryz.prog 21 #[xv e, .int .i64 D] w fun x w' => x = .returned (.bool (mayE f e)) ∧ Below w.heap.size w w' := by
 intro f
 induction f with
 | zero =>
   intro h e w D hD _ hx
   obtain ⟨k, n, d, u, oa, b, o, cap, kids⟩ := e
   have g : D = 341 := by omega
   subst g
   clear hx hD
   show Calls Tryz.prog 21 #[.agg #[.int .i64 k, .int .i64 n, .int .i64 d, .int .i64 u, .slice oa kids.length cap], .int .i64 341] w _
   go_enter Tryz.func21, Tryz.ntmps21
   go_wp2_with fail
   go_ret
   exact ⟨rfl, below_box _ _⟩
 | succ f ih =>
   intro h e w D hD hf hx
   obtain _ | h := h
   · exact hx.elim
   obtain ⟨k, n, d, u, oa, b, o, cap, kids⟩ := e
   obtain ⟨h1, h2, h3, h4, h5, h6, h7, h8⟩ := hx
   have hD1 : D ≤ 340 := by omega
   have hD0 : 0 ≤ D := by omega
   have gD : decide ((340 : Int) < D) = false := by simp; omega
   have HIH := Lib.hid (fun x wx (hx : ExIn wx h x) => ih h x wx (D + 1) (by omega) (by omega) hx)
   have HM := Lib.hid (fun w => may_any (n, d) w h2)
   clear ih hD hf
   have hsm : kids.length ≤ 9223372036854775807 := Nat.le_trans (Nat.le_trans h4 h5) (by decide)
   show Calls Tryz.prog 21 #[.agg #[.int .i64 k, .int .i64 n, .int .i64 d, .int .i64 u, .slice oa kids.length cap], .int .i64 D] w _
   by_cases hk : k = 1
   · subst hk
     obtain ⟨b1, g1⟩ : ∃ b, ((kids.length : Int) == 0) = b := ⟨_, rfl⟩
     obtain ⟨b2, g2⟩ : ∃ b, decide ((0 : Int) ≤ u) = b := ⟨_, rfl⟩
     obtain ⟨b3, g3⟩ : ∃ b, decide (u ≤ (7 : Int)) = b := ⟨_, rfl⟩
     have HF := Lib.hid (show mayE (f + 1) (.mk 1 n d u oa b o cap kids) = (b1 && mayB (n, d) && b2 && b3) by
      rw [← g1, ← g2, ← g3]
      unfold mayE
      rw [if_pos rfl, show decide (kids.length = 0) = ((kids.length : Int) == 0) by rw [Bool.eq_iff_iff]; simp])
     clear h7 h8 HIH h1 h3
     generalize mayB (n, d) = mb at *
     have ways : b1 = false ∨ b1 = true ∧ mb = false ∨ b1 = true ∧ mb = true ∧ b2 = false ∨ b1 = true ∧ mb = true ∧ b2 = true := by cases b1 <;> cases mb <;> cases b2 <;> simp
     rcases ways with rfl | ⟨rfl, rfl⟩ | ⟨rfl, rfl, rfl⟩ | ⟨rfl, rfl, rfl⟩
     · go_enter Tryz.func21, Tryz.ntmps21
       go_wp2_with fail
       go_ret
       exact ⟨ret_bool (by rw [HF.out]; rfl), below_box _ _⟩
     all_goals
      go_enter Tryz.func21, Tryz.ntmps21
      go_wp2_with fail
      ((with_reducible refine (HM.out _).mono ?_); rintro e w' ⟨rfl, hbw⟩)
      obtain ⟨m, rfl⟩ := grow_mk hbw
      clear hbw
      go_wp2_with fail
      go_ret
      exact ⟨ret_bool (by rw [HF.out]; rfl), below_grow (below_box _ _) m⟩
   · have gk : (k == 1) = false := by simpa using hk
     by_cases hz : n = 0 ∧ d = 0 ∧ u = 0
     · obtain ⟨rfl, rfl, rfl⟩ := hz
       have HF := Lib.hid (show mayE (f + 1) (.mk k 0 0 0 oa b o cap kids) = (arity k kids.length && kids.all (mayE f)) by
        unfold mayE
        rw [if_neg hk]
        rfl)
       clear HM
       go_enter Tryz.func21, Tryz.ntmps21
       go_upto_block 0 with fail
       go_cut [6] (fun s wx => s = .bool (arity k kids.length) ∧ wx = w.alloc (.cells #[.int .i64 k, .int .i64 0, .int .i64 0, .int .i64 0, .slice oa kids.length cap] 27))
       case first =>
        clear HIH h7 h8 h1 HF
        by_cases c : k = 2 ∨ k = 4 ∨ k = 6 ∨ k = 7
        · have G := Lib.hid (arity_many (L := kids.length) c)
          rcases c with rfl | rfl | rfl | rfl
          all_goals
           go_wp2_with fail
           go_meet
           case rel => exact ⟨congrArg Value.bool G.out.symm, rfl⟩
        by_cases c2 : k = 3 ∨ k = 5
        · have G := Lib.hid (arity_one (L := kids.length) c2)
          rcases c2 with rfl | rfl
          all_goals
           go_wp2_with fail
           go_meet
           case rel => exact ⟨congrArg Value.bool G.out.symm, rfl⟩
        by_cases c3 : k = 8
        · have G := Lib.hid (arity_three (L := kids.length) c3)
          subst c3
          go_wp2_with fail
          go_meet
          case rel => exact ⟨congrArg Value.bool G.out.symm, rfl⟩
        · have G := Lib.hid (arity_none (L := kids.length) c c2 c3)
          have e2 : (k == 2) = false := by simp; omega
          have e4 : (k == 4) = false := by simp; omega
          have e6 : (k == 6) = false := by simp; omega
          have e7 : (k == 7) = false := by simp; omega
          have e3 : (k == 3) = false := by simp; omega
          have e5 : (k == 5) = false := by simp; omega
          have e8 : (k == 8) = false := by simp; omega
          clear c c2 c3
          go_wp2_with fail
          go_meet
          case rel => exact ⟨congrArg Value.bool G.out.symm, rfl⟩
       case rest =>
        obtain ⟨rfl, rfl⟩ := hcut
        generalize arity k kids.length = A at *
        go_wp2_with fail
        go_loopg [6, 7] kids.length (fun kk s t wr => ∃ (i : Nat) (ok : Bool), s = .bool ok ∧ t = .int .i64 i ∧ Hid (Gk w wr 27 #[.int .i64 k, .int .i64 0, .int .i64 0, .int .i64 0, .slice oa kids.length cap]) ∧ i ≤ kids.length ∧ Hid ((ok && (kids.drop i).all (mayE f)) = (A && kids.all (mayE f))) ∧ kids.length - i ≤ kk)
        case atStart => exact ⟨0, A, rfl, rfl, Lib.hid ⟨below_box _ _, Blk.new _ _ _⟩, Nat.zero_le _, Lib.hid rfl, by omega⟩
        case round =>
         obtain ⟨i, ok, rfl, rfl, hg, hle, hl, hk2⟩ := hrel
         have cb0 : wr.cell? ⟨w.heap.size, 0, none⟩ = some (.int .i64 k) := (hg.out.box).cell 0
         have fcb0 := (hg.out.box).frozen 0
         have cb1 : wr.cell? ⟨w.heap.size, 1, none⟩ = some (.int .i64 0) := (hg.out.box).cell 1
         have fcb1 := (hg.out.box).frozen 1
         have cb2 : wr.cell? ⟨w.heap.size, 2, none⟩ = some (.int .i64 0) := (hg.out.box).cell 2
         have fcb2 := (hg.out.box).frozen 2
         have cb3 : wr.cell? ⟨w.heap.size, 3, none⟩ = some (.int .i64 0) := (hg.out.box).cell 3
         have fcb3 := (hg.out.box).frozen 3
         have cb4 : wr.cell? ⟨w.heap.size, 4, none⟩ = some (.slice oa kids.length cap) := (hg.out.box).cell 4
         have fcb4 := (hg.out.box).frozen 4
         have lcb := (hg.out.box).lt
         have hbel := Lib.hid hg.out.below
         by_cases hi : i < kids.length
         · have gi : decide ((i : Int) < kids.length) = true := by simpa using hi
           cases ok with
           | false =>
             go_wp2_with fail
             go_ret
             exact ⟨ret_bool (by rw [HF.out, ← hl.out]; rfl), hbel.out⟩
           | true =>
             have hr : kids[i]? = some kids[i] := List.getElem?_eq_getElem hi
             have hx := h8 i _ hr
             have hlaw := hl.out
             rw [all_drop hr] at hlaw
             obtain ⟨rfl, hbl⟩ := h7 (by omega)
             generalize kids[i] = x at *
             have hX := HIH.out x wr (hx.2.below _ (hg.out.below))
             obtain ⟨k', n', d', u', oa', b', o', cap', kids'⟩ := x
             rw [xv_mk] at hX
             have HX := Lib.hid hX
             clear hX
             generalize mayE f (.mk k' n' d' u' oa' b' o' cap' kids') = M at *
             have f0 : wr.cell? ⟨b, o + i * 5, none⟩ = some (.int .i64 k') := (hg.out.below.cell hbl).trans (hx.1 0 _ rfl)
             have f1 : wr.cell? ⟨b, o + i * 5 + 1, none⟩ = some (.int .i64 n') := (hg.out.below.cell hbl).trans (hx.1 1 _ rfl)
             have f2 : wr.cell? ⟨b, o + i * 5 + 2, none⟩ = some (.int .i64 d') := (hg.out.below.cell hbl).trans (hx.1 2 _ rfl)
             have f3 : wr.cell? ⟨b, o + i * 5 + 3, none⟩ = some (.int .i64 u') := (hg.out.below.cell hbl).trans (hx.1 3 _ rfl)
             have f4 : wr.cell? ⟨b, o + i * 5 + 4, none⟩ = some (.slice oa' kids'.length cap') := (hg.out.below.cell hbl).trans (hx.1 4 _ rfl)
             have HL := Lib.hid hlaw
             clear hx hlaw hl hr h8 h7
             go_wp2_with fail
             ((with_reducible refine (HX.out).mono ?_); rintro e w' ⟨rfl, hbw⟩)
             obtain ⟨m, rfl⟩ := grow_mk hbw
             clear hbw
             go_wp2_with fail
             go_roundg (kids.length - (i + 1))
             case measure => omega
             case rel => exact ⟨i + 1, M, rfl, by go_num, Lib.hid ⟨below_grow hbel.out m, hg.out.box.grow m⟩, hi, Lib.hid (by rw [← HL.out]; rfl), by omega⟩
         · obtain rfl : i = kids.length := by omega
           have hlaw := hl.out
           rw [List.drop_length] at hlaw
           have HL := Lib.hid hlaw
           clear hlaw hl
           cases ok with
           | false =>
             go_wp2_with fail
             go_ret
             exact ⟨ret_bool (by rw [HF.out, ← HL.out]; rfl), hbel.out⟩
           | true =>
             go_wp2_with fail
             go_ret
             exact ⟨ret_bool (by rw [HF.out, ← HL.out]; rfl), hbel.out⟩
     · have HF := Lib.hid (show mayE (f + 1) (.mk k n d u oa b o cap kids) = false by
        unfold mayE
        rw [if_neg hk]
        have : (decide (n = 0) && decide (d = 0) && decide (u = 0)) = false := by simp; omega
        rw [this]; rfl)
       clear HM HIH h7 h8
       have ways : n ≠ 0 ∨ n = 0 ∧ d ≠ 0 ∨ n = 0 ∧ d = 0 ∧ u ≠ 0 := by omega
       clear hz
       rcases ways with hn | ⟨rfl, hn⟩ | ⟨rfl, rfl, hn⟩
       all_goals
        go_enter Tryz.func21, Tryz.ntmps21
        go_wp2_with fail
        go_ret
        exact ⟨ret_bool HF.out.symm, below_box _ _⟩
end Go.Proofs.YtplnhjmomomphaaGreatDoor

namespace Go.Proofs.YtplnhjmomomphaaGreatDoor
set_option linter.unusedVariables false
set_option linter.unusedSimpArgs false
open Go.RowKit
set_option maxHeartbeats 1000000 in
theorem cMay_any (h : Nat) (e : Ex) (w : World) (hx : ExIn w h e) :
 Calls Tryz.prog 9 #[xv e] w fun x w' => x = .returned (.bool (mayE 340 e)) ∧ Below w.heap.size w w' := by
 have hC := fun wx hb => cmay_any 340 h e wx 1 rfl (by decide) (hx.below h (w' := wx) hb)
 obtain ⟨k, n, d, u, oa, b, o, cap, kids⟩ := e
 generalize mayE 340 _ = M at *
 simp only [xv_mk] at hC ⊢
 have HC := Lib.hid hC
 clear hC
 go_enter Tryz.func9, Tryz.ntmps9
 go_wp2_with fail
 ((with_reducible refine (HC.out _ (below_box _ _)).mono ?_); rintro e w' ⟨rfl, hbw⟩)
 obtain ⟨m, rfl⟩ := grow_mk hbw
 clear hbw
 go_wp2_with fail
 go_ret
 exact ⟨rfl, below_grow (below_box _ _) m⟩
end Go.Proofs.YtplnhjmomomphaaGreatDoor
