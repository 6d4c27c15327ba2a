/- Of my texts: WideC, WideD, WideE, RatD, Fold, LooseB, RatF, Rats, FoldA, MulR, LooseC, TextB. -/
import Derived.Test.YtplnhjmomomphaaGreatDoorM02
import Derived.Test.YtplnhjmomomphaaGreatDoorM03
import Derived.Test.YtplnhjmomomphaaGreatDoorM04
import Derived.Deep.LoopGhost
import Derived.Deep.RegionWith
import Derived.Deep.CutBlock
import Derived.Deep.DeepCutAuto
import Derived.Lib.Builder
import Derived.Lib.AppendStr
import Derived.Lib.UnsafeStr
import Derived.Laws.Externs
namespace Go.Proofs.YtplnhjmomomphaaGreatDoor
set_option linter.unusedVariables false
set_option linter.unusedSimpArgs false
open Go.RowKit
/-- a block of the call's own, whole -/
def Blk (w : World) (g : Nat) (t : TypeId) (cs : Array Value) : Prop := w.heap[g]? = some (.cells cs t (0, 0))
section
variable {w w' : World} {g : Nat} {t : TypeId} {cs : Array Value}
theorem Blk.lt (h : Blk w g t cs) : g < w.heap.size := by
 apply Classical.byContradiction
 intro hn
 unfold Blk at h
 rw [Array.getElem?_eq_none (by omega)] at h
 cases h
theorem Blk.cell (h : Blk w g t cs) (i : Nat) : w.cell? ⟨g, i, none⟩ = cs[i]? := cell_of_row w g i cs t (0, 0) h
theorem Blk.frozen (h : Blk w g t cs) (i : Nat) : w.frozen? ⟨g, i, none⟩ = false := by unfold Blk at h; simp [World.frozen?, h]
theorem Blk.new (w : World) (t : TypeId) (cs : Array Value) : Blk (w.alloc (.cells cs t)) w.heap.size t cs := heap_alloc_new w _
theorem Blk.old (h : Blk w g t cs) (o : Obj) : Blk (w.alloc o) g t cs := (Below.heap_alloc w o g h.lt).trans h
theorem Blk.below {B : Nat} (h : Blk w g t cs) (hb : Below B w w') (hg : g < B) : Blk w' g t cs := (hb.block g hg).trans h
theorem Blk.grow (h : Blk w g t cs) (m : Ext w) : Blk (grow w m) g t cs := h.below (grow_below m) h.lt
theorem Blk.put (h : Blk w g t cs) (i : Nat) (u : Value) : Blk (w.setCell ⟨g, i, none⟩ u) g t (cs.setIfInBounds i u) := by
 unfold Blk at h ⊢
 simp [World.setCell, Array.getElem?_modify, h]
theorem Blk.far (h : Blk w g t cs) {p : Addr} (hp : g ≠ p.block) (u : Value) : Blk (w.setCell p u) g t cs := (Below.heap_setCell w p u g hp).trans h
theorem Blk.five {w : World} {g : Nat} {t : TypeId} {a0 a1 a2 a3 a4 : Value} (h : Blk w g t #[a0, a1, a2, a3, a4]) : w.cell? ⟨g, 0, none⟩ = some a0 ∧ w.frozen? ⟨g, 0, none⟩ = false ∧ w.cell? ⟨g, 1, none⟩ = some a1 ∧ w.frozen? ⟨g, 1, none⟩ = false ∧ w.cell? ⟨g, 2, none⟩ = some a2 ∧ w.frozen? ⟨g, 2, none⟩ = false ∧ w.cell? ⟨g, 3, none⟩ = some a3 ∧ w.frozen? ⟨g, 3, none⟩ = false ∧ w.cell? ⟨g, 4, none⟩ = some a4 ∧ w.frozen? ⟨g, 4, none⟩ = false ∧ g < w.heap.size :=
 ⟨h.cell 0, h.frozen 0, h.cell 1, h.frozen 1, h.cell 2, h.frozen 2, h.cell 3, h.frozen 3, h.cell 4, h.frozen 4, h.lt⟩
theorem Blk.to (h : Blk w g t cs) {cs' : Array Value} (e : cs = cs') : Blk w g t cs' := e ▸ h
end
/-- the three variables of the divisor's reckoning -/
structure Gw (w0 wr : World) (t ah al bh bl : Nat) : Prop where
 below : Below w0.heap.size w0 wr
 a : Blk wr w0.heap.size t #[.int .u64 ah, .int .u64 al]
 b : Blk wr (w0.heap.size + 1) t #[.int .u64 bh, .int .u64 bl]
 r : Blk wr (w0.heap.size + 1 + 1) t #[.int .u64 0, .int .u64 0]
 b1 : ah < 18446744073709551616
 b2 : al < 18446744073709551616
 b3 : bh < 18446744073709551616
 b4 : bl < 18446744073709551616
theorem Blk.put2 {w : World} {g : Nat} {t : TypeId} {x y : Value} (h : Blk w g t #[x, y]) (a b : Value) : Blk ((w.setCell ⟨g, 0, none⟩ a).setCell ⟨g, 1, none⟩ b) g t #[a, b] := (h.put 0 a).put 1 b
theorem Blk.far2 {w : World} {g g' : Nat} {t : TypeId} {cs : Array Value} (h : Blk w g t cs) (hne : g ≠ g') (i j : Nat) (a b : Value) : Blk ((w.setCell ⟨g', i, none⟩ a).setCell ⟨g', j, none⟩ b) g t cs := (h.far (p := ⟨g', i, none⟩) hne a).far (p := ⟨g', j, none⟩) hne b
section
variable {w0 wr : World} {t ah al bh bl : Nat}
theorem Gw.grow (h : Gw w0 wr t ah al bh bl) (m : Ext wr) : Gw w0 (grow wr m) t ah al bh bl := ⟨below_grow h.below m, h.a.grow m, h.b.grow m, h.r.grow m, h.b1, h.b2, h.b3, h.b4⟩
end
/-- what holds of the numbers throughout -/
structure Gs (G ah al bh bl n : Nat) : Prop where
 a : wn ah al ≠ 0
 b : wn bh bl ≠ 0
 eq : 2 ^ n * Nat.gcd (wn ah al) (wn bh bl) = G
 lt : G < 340282366920938463463374607431768211456
/-- behind the second loop: a is odd -/
structure Gt (G ah al bh bl n : Nat) : Prop where
 odd : al % 2 = 1
 eq : 2 ^ n * Nat.gcd (wn ah al) (wn bh bl) = G
 lt : G < 340282366920938463463374607431768211456
theorem Gs.done {G ah al bh bl n : Nat} (h : Gs G ah al bh bl n) (pa : al % 2 = 1) : Gt G ah al bh bl n := ⟨pa, h.eq, h.lt⟩
theorem Gt.pos {G ah al bh bl n : Nat} (h : Gt G ah al bh bl n) : 0 < wn ah al := by have := h.odd; unfold wn; omega
theorem wn_sub (ah al bh bl : Nat) (h2 : al < 18446744073709551616) (h4 : bl < 18446744073709551616) (h : wn bh bl ≤ wn ah al) : wn (subHi ah al bh bl) (subLo al bl) = wn ah al - wn bh bl := by
 unfold wn subHi subLo at *
 split <;> omega
theorem Gt.less {G ah al bh bl n : Nat} (h : Gt G ah al bh bl n) (h2 : al < 18446744073709551616) (h4 : bl < 18446744073709551616) (hle : wn ah al ≤ wn bh bl) : Gt G ah al (subHi bh bl ah al) (subLo bl al) n := by
 obtain ⟨odd, eq, lt⟩ := h
 refine ⟨odd, ?_, lt⟩
 rw [wn_sub _ _ _ _ h4 h2 hle, gcd_less _ _ hle, eq]
theorem Gt.last {G ah al bh bl n : Nat} (h : Gt G ah al bh bl n) (hb : bh = 0 ∧ bl = 0) : 2 ^ n * wn ah al = G := by
 have := h.eq
 rw [hb.1, hb.2, show wn 0 0 = 0 from rfl, Nat.gcd_zero_right] at this
 exact this
end Go.Proofs.YtplnhjmomomphaaGreatDoor

namespace Go.Proofs.YtplnhjmomomphaaGreatDoor
set_option linter.unusedVariables false
set_option linter.unusedSimpArgs false
open Go.RowKit
/-- the five variables of the quotient's reckoning -/
structure Gd (w0 wr : World) (t ah al bh bl qh ql rh rl : Nat) : Prop where
 below : Below w0.heap.size w0 wr
 a : Blk wr w0.heap.size t #[.int .u64 ah, .int .u64 al]
 b : Blk wr (w0.heap.size + 1) t #[.int .u64 bh, .int .u64 bl]
 o : Blk wr (w0.heap.size + 1 + 1) t #[.int .u64 0, .int .u64 0]
 q : Blk wr (w0.heap.size + 1 + 1 + 1) t #[.int .u64 qh, .int .u64 ql]
 r : Blk wr (w0.heap.size + 1 + 1 + 1 + 1) t #[.int .u64 rh, .int .u64 rl]
section
variable {w0 wr : World} {t ah al bh bl qh ql rh rl : Nat}
theorem Gd.grow (h : Gd w0 wr t ah al bh bl qh ql rh rl) (m : Ext wr) : Gd w0 (grow wr m) t ah al bh bl qh ql rh rl := ⟨below_grow h.below m, h.a.grow m, h.b.grow m, h.o.grow m, h.q.grow m, h.r.grow m⟩
end
end Go.Proofs.YtplnhjmomomphaaGreatDoor

namespace Go.Proofs.YtplnhjmomomphaaGreatDoor
set_option linter.unusedVariables false
set_option linter.unusedSimpArgs false
open Go.RowKit
set_option maxHeartbeats 400000 in
theorem over_any (w : World) : Calls Tryz.prog 123 #[] w fun e w' => e = .returned (.agg #[.int .i64 0, .int .i64 0]) ∧ Below w.heap.size w w' := by
 go_enter Tryz.func123, Tryz.ntmps123
 go_wp2
 exact bodyPost_ret (v := .agg #[.int .i64 0, .int .i64 0]) (by simp [results, Tryz.results123, go_sem]) rfl ⟨rfl, below_box _ _⟩
/-- the variables of the reference's 'made' -/
structure Gm (w0 wr : World) (t tr nh nl dh dl : Nat) : Prop where
 below : Below w0.heap.size w0 wr
 n : Blk wr w0.heap.size t #[.int .u64 nh, .int .u64 nl]
 d : Blk wr (w0.heap.size + 1) t #[.int .u64 dh, .int .u64 dl]
 o : Blk wr (w0.heap.size + 1 + 1) tr #[.int .i64 0, .int .i64 0]
section
variable {w0 wr : World} {t tr nh nl dh dl : Nat}
theorem Gm.start (w0 : World) (t tr nh nl dh dl : Nat) : Gm w0 (((w0.alloc (.cells #[.int .u64 nh, .int .u64 nl] t)).alloc (.cells #[.int .u64 dh, .int .u64 dl] t)).alloc (.cells #[.int .i64 0, .int .i64 0] tr)) t tr nh nl dh dl := by
 have k1 := Blk.new w0 t #[.int .u64 nh, .int .u64 nl]
 have k2 := Blk.new (w0.alloc (.cells #[.int .u64 nh, .int .u64 nl] t)) t #[.int .u64 dh, .int .u64 dl]
 have k3 := Blk.new ((w0.alloc (.cells #[.int .u64 nh, .int .u64 nl] t)).alloc (.cells #[.int .u64 dh, .int .u64 dl] t)) tr #[.int .i64 0, .int .i64 0]
 simp only [World.size_alloc] at k2 k3
 exact ⟨((below_box _ _).alloc (by first | omega | (simp; done) | (simp; omega)) _).alloc (by first | omega | (simp; done) | (simp; omega)) _, (k1.old _).old _, k2.old _, k3⟩
theorem Gm.grow (h : Gm w0 wr t tr nh nl dh dl) (m : Ext wr) : Gm w0 (grow wr m) t tr nh nl dh dl := ⟨below_grow h.below m, h.n.grow m, h.d.grow m, h.o.grow m⟩
theorem Gm.old (h : Gm w0 wr t tr nh nl dh dl) (o : Obj) : Gm w0 (wr.alloc o) t tr nh nl dh dl := ⟨h.below.alloc h.below.size o, h.n.old o, h.d.old o, h.o.old o⟩
end
end Go.Proofs.YtplnhjmomomphaaGreatDoor

namespace Go.Proofs.YtplnhjmomomphaaGreatDoor
set_option linter.unusedVariables false
set_option linter.unusedSimpArgs false
open Go.RowKit
/-- whether it may be -/
def mayB (r : Rt) : Bool := (decide (r.1 = 0) && decide (r.2 = 0)) || sureB r
set_option maxHeartbeats 1000000 in
theorem may_any (r : Rt) (w : World) (h64 : Is64 r) :
 Calls Tryz.prog 41 #[rv r] w fun e w' => e = .returned (.bool (mayB r)) ∧ Below w.heap.size w w' := by
 have hs := fun w => sure_any r w h64
 obtain ⟨n, d⟩ := r
 have HS := Lib.hid hs
 clear hs
 unfold mayB
 simp only
 generalize sureB (n, d) = b at *
 by_cases c1 : n = 0
 · subst c1
   by_cases c2 : d = 0
   · subst c2
     go_enter Tryz.func41, Tryz.ntmps41
     go_wp2_with fail
     go_ret
     exact ⟨ret_bool rfl, below_box _ _⟩
   · have HF := Lib.hid (show (decide ((0 : Int) = 0) && decide (d = 0) || b) = b by simp [c2])
     go_enter Tryz.func41, Tryz.ntmps41
     go_wp2_with fail
     ((with_reducible refine (HS.out _).mono ?_); rintro e w' ⟨rfl, hbw⟩)
     obtain ⟨m, rfl⟩ := grow_mk hbw
     clear hbw
     go_wp2_with fail
     go_ret
     exact ⟨ret_bool (by simp [c2]), below_grow (below_box _ _) _⟩
 · go_enter Tryz.func41, Tryz.ntmps41
   go_wp2_with fail
   ((with_reducible refine (HS.out _).mono ?_); rintro e w' ⟨rfl, hbw⟩)
   obtain ⟨m, rfl⟩ := grow_mk hbw
   clear hbw
   go_wp2_with fail
   go_ret
   exact ⟨ret_bool (by simp [c1]), below_grow (below_box _ _) _⟩
end Go.Proofs.YtplnhjmomomphaaGreatDoor

namespace Go.Proofs.YtplnhjmomomphaaGreatDoor
set_option linter.unusedVariables false
set_option linter.unusedSimpArgs false
open Go.RowKit
/-- two by two, the first being told -/
def opG (op : Rt → Rt → Rt) : Rt → List Rt → Rt
 | out, [] => out
 | out, r :: l => if sureB out && sureB r then opG op (op out r) l else (0, 0)
/-- it, or over -/
def cleanR (x : Rt) : Rt := if mayB x then x else (0, 0)
theorem is64_over : Is64 (0, 0) := ⟨by decide, by decide, by decide, by decide⟩
theorem is64_cleanR {x : Rt} (h : Is64 x) : Is64 (cleanR x) := by unfold cleanR; split; exact h; exact is64_over
end Go.Proofs.YtplnhjmomomphaaGreatDoor

namespace Go.Proofs.YtplnhjmomomphaaGreatDoor
set_option linter.unusedVariables false
set_option linter.unusedSimpArgs false
open Go.RowKit
theorem Blk.new2 (w : World) (o : Obj) (t : TypeId) (cs : Array Value) : Blk ((w.alloc o).alloc (.cells cs t)) (w.heap.size + 1) t cs := by have := Blk.new (w.alloc o) t cs; simpa using this
def ownP (v : Value) : Option Nat := match v with
 | .pointer (some a) => some a.block
 | _ => none
/-- a new variable of cells cs -/
def Loose.cells (i : Nat) (d : Tmp) (t : TypeId) (cs : Array Value) (k0 : Nat) : Loose :=
 ⟨i, d, none, fun v w => ∃ b, v = .pointer (some ⟨b, 0, none⟩) ∧ k0 ≤ b ∧ Blk w b t cs, ownP, fun _ _ _ ⟨b, h1, h0, h2⟩ hb => ⟨b, h1, h0, h2.below hb h2.lt⟩⟩
theorem Loose.claim_i (i : Nat) (d : Tmp) (c : Value) : (Loose.claim i d c).i = i := rfl
theorem Loose.cells_i (k0 : Nat) (i : Nat) (d : Tmp) (t : TypeId) (cs : Array Value) : (Loose.cells i d t cs k0).i = i := rfl
theorem Loose.claim_hush (i : Nat) (d : Tmp) (c : Value) (o : Oper) : (Loose.claim i d c).hush o = { o with op := .move (.const c), guard := none } := rfl
theorem Loose.cells_hush (k0 : Nat) (i : Nat) (d : Tmp) (t : TypeId) (cs : Array Value) (o : Oper) : (Loose.cells i d t cs k0).hush o = { o with dst := none, op := .move (.const undef), guard := none } := rfl
theorem fill_nil (V : Nat → Value) (a : Act) : fill V [] a = a := rfl
theorem fill_claim (V : Nat → Value) (i : Nat) (d : Tmp) (c : Value) (cl : List Loose) (a : Act) : fill V (Loose.claim i d c :: cl) a = fill V cl a := rfl
theorem fill_cells (k0 : Nat) (V : Nat → Value) (i : Nat) (d : Tmp) (t : TypeId) (cs : Array Value) (cl : List Loose) (a : Act) : fill V (Loose.cells i d t cs k0 :: cl) a = fill V cl (a.put (some d) (V i)) := rfl
theorem laws_nil (V : Nat → Value) (w : World) : lawsL V w [] = True := rfl
theorem laws_claim (V : Nat → Value) (w : World) (i : Nat) (d : Tmp) (c : Value) (cl : List Loose) : lawsL V w (Loose.claim i d c :: cl) = lawsL V w cl := by
 simp [lawsL, Loose.claim]
theorem laws_cells (k0 : Nat) (V : Nat → Value) (w : World) (i : Nat) (d : Tmp) (t : TypeId) (cs : Array Value) (cl : List Loose) : lawsL V w (Loose.cells i d t cs k0 :: cl) = ((∃ b, V i = .pointer (some ⟨b, 0, none⟩) ∧ k0 ≤ b ∧ Blk w b t cs) ∧ lawsL V w cl) := rfl
theorem dist_nil (V : Nat → Value) : distL V [] = True := rfl
theorem dist1_nil (V : Nat → Value) (L : Loose) : distL1 V L [] = True := rfl
theorem dist_claim (V : Nat → Value) (i : Nat) (d : Tmp) (c : Value) (cl : List Loose) : distL V (Loose.claim i d c :: cl) = distL V cl := by
 have h : ∀ cl : List Loose, distL1 V (Loose.claim i d c) cl := fun cl => distL1_of fun L' _ k k' h => by cases h
 simp [distL, h]
theorem dist_cells (k0 : Nat) (V : Nat → Value) (i : Nat) (d : Tmp) (t : TypeId) (cs : Array Value) (cl : List Loose) : distL V (Loose.cells i d t cs k0 :: cl) = (distL1 V (Loose.cells i d t cs k0) cl ∧ distL V cl) := rfl
theorem dist1_claim (V : Nat → Value) (L : Loose) (i : Nat) (d : Tmp) (c : Value) (cl : List Loose) : distL1 V L (Loose.claim i d c :: cl) = distL1 V L cl := by
 have h : ∀ k k', L.own (V L.i) = some k → (Loose.claim i d c).own (V i) = some k' → k ≠ k' := fun k k' _ h => by cases h
 exact propext ⟨fun h2 => h2.2, fun h2 => ⟨h, h2⟩⟩
theorem dist1_cells (k0 : Nat) (j0 : Nat) (V : Nat → Value) (i j : Nat) (d e : Tmp) (t u : TypeId) (cs ds : Array Value) (cl : List Loose) : distL1 V (Loose.cells i d t cs k0) (Loose.cells j e u ds j0 :: cl) = ((∀ k k', ownP (V i) = some k → ownP (V j) = some k' → k ≠ k') ∧ distL1 V (Loose.cells i d t cs k0) cl) := rfl
theorem obs_nil (P : Program) (l : List Oper) (V : Nat → Value) (w' : World) (F : Act) (all : List Loose) : obsL P l V w' F all [] = True := rfl
theorem obs_cons (P : Program) (l : List Oper) (V : Nat → Value) (w' : World) (F : Act) (all : List Loose) (L : Loose) (cl : List Loose) :
 obsL P l V w' F all (L :: cl) = ((match l[L.i]? with | some o => waitsL V w' o all → (match o.guard with | none => wpList P l.toArray (PostL L F w') [o] F w' | some _ => Region.wanted o (yielded l.toArray F.tmps) = true ∧ wpList P l.toArray (PostL L F w') [o] F w') | none => True) ∧ obsL P l V w' F all cl) := rfl
/-- a new row of cells cs, and a slice of all of it -/
def ownS (v : Value) : Option Nat := match v with
 | .slice (some a) _ _ => some a.block
 | _ => none
def Loose.rowL (i : Nat) (d : Tmp) (t : TypeId) (k : Nat) (cs : Array Value) (k0 : Nat) : Loose :=
 ⟨i, d, none, fun v w => ∃ b, v = .slice (some ⟨b, 0, none⟩) k k ∧ k0 ≤ b ∧ Blk w b t cs, ownS, fun _ _ _ ⟨b, h1, h0, h2⟩ hb => ⟨b, h1, h0, h2.below hb h2.lt⟩⟩
theorem Loose.rowL_i (k0 : Nat) (i : Nat) (d : Tmp) (t : TypeId) (k : Nat) (cs : Array Value) : (Loose.rowL i d t k cs k0).i = i := rfl
theorem Loose.rowL_hush (k0 : Nat) (i : Nat) (d : Tmp) (t : TypeId) (k : Nat) (cs : Array Value) (o : Oper) : (Loose.rowL i d t k cs k0).hush o = { o with dst := none, op := .move (.const undef), guard := none } := rfl
theorem fill_rowL (k0 : Nat) (V : Nat → Value) (i : Nat) (d : Tmp) (t : TypeId) (k : Nat) (cs : Array Value) (cl : List Loose) (a : Act) : fill V (Loose.rowL i d t k cs k0 :: cl) a = fill V cl (a.put (some d) (V i)) := rfl
theorem laws_rowL (k0 : Nat) (V : Nat → Value) (w : World) (i : Nat) (d : Tmp) (t : TypeId) (k : Nat) (cs : Array Value) (cl : List Loose) : lawsL V w (Loose.rowL i d t k cs k0 :: cl) = ((∃ b, V i = .slice (some ⟨b, 0, none⟩) k k ∧ k0 ≤ b ∧ Blk w b t cs) ∧ lawsL V w cl) := rfl
theorem dist_rowL (k0 : Nat) (V : Nat → Value) (i : Nat) (d : Tmp) (t : TypeId) (k : Nat) (cs : Array Value) (cl : List Loose) : distL V (Loose.rowL i d t k cs k0 :: cl) = (distL1 V (Loose.rowL i d t k cs k0) cl ∧ distL V cl) := rfl
theorem dist1_rowL (k0 : Nat) (j0 : Nat) (V : Nat → Value) (i j : Nat) (d e : Tmp) (t u : TypeId) (k l : Nat) (cs ds : Array Value) (cl : List Loose) : distL1 V (Loose.rowL i d t k cs k0) (Loose.rowL j e u l ds j0 :: cl) = ((∀ k k', ownS (V i) = some k → ownS (V j) = some k' → k ≠ k') ∧ distL1 V (Loose.rowL i d t k cs k0) cl) := rfl
theorem dist1_cells_rowL (k0 : Nat) (j0 : Nat) (V : Nat → Value) (i j : Nat) (d e : Tmp) (t u : TypeId) (l : Nat) (cs ds : Array Value) (cl : List Loose) : distL1 V (Loose.cells i d t cs k0) (Loose.rowL j e u l ds j0 :: cl) = ((∀ k k', ownP (V i) = some k → ownS (V j) = some k' → k ≠ k') ∧ distL1 V (Loose.cells i d t cs k0) cl) := rfl
theorem dist1_rowL_cells (k0 : Nat) (j0 : Nat) (V : Nat → Value) (i j : Nat) (d e : Tmp) (t u : TypeId) (k : Nat) (cs ds : Array Value) (cl : List Loose) : distL1 V (Loose.rowL i d t k cs k0) (Loose.cells j e u ds j0 :: cl) = ((∀ k k', ownS (V i) = some k → ownP (V j) = some k' → k ≠ k') ∧ distL1 V (Loose.rowL i d t k cs k0) cl) := rfl
theorem post_rowL {k0 : Nat} {i : Nat} {d : Tmp} {t : TypeId} {k : Nat} {cs : Array Value} {F : Act} {w : World} {a : Act} (h : a = F.put (some d) (.slice (some ⟨w.heap.size, 0, none⟩) k k)) (hk : k0 ≤ w.heap.size) : PostL (Loose.rowL i d t k cs k0) F w .normal a (w.alloc (.cells cs t)) :=
 ⟨rfl, _, h, below_box _ _, ⟨_, rfl, hk, Blk.new _ _ _⟩, fun k2 hk => by
   simp only [Loose.rowL, ownS, Option.some.injEq] at hk
   subst hk
   simp, fun c hc => by cases hc⟩
/-- what is shown of a new variable -/
theorem post_cells {k0 : Nat} {i : Nat} {d : Tmp} {t : TypeId} {cs : Array Value} {F : Act} {w : World} {a : Act} (h : a = F.put (some d) (.pointer (some ⟨w.heap.size, 0, none⟩))) (hk : k0 ≤ w.heap.size) : PostL (Loose.cells i d t cs k0) F w .normal a (w.alloc (.cells cs t)) :=
 ⟨rfl, _, h, below_box _ _, ⟨_, rfl, hk, Blk.new _ _ _⟩, fun k hk => by
   simp only [Loose.cells, ownP, Option.some.injEq] at hk
   subst hk
   simp, fun c hc => by cases hc⟩
/-- what is shown of a call whose value is claimed -/
theorem post_claim {i : Nat} {d : Tmp} {c : Value} {F : Act} {w w' : World} {a : Act} (h : a = F.put (some d) c) (hb : Below w.heap.size w w') : PostL (Loose.claim i d c) F w .normal a w' :=
 ⟨rfl, _, h, hb, trivial, fun k hk => (by cases hk), fun c2 hc => (by cases hc; rfl)⟩
end Go.Proofs.YtplnhjmomomphaaGreatDoor

namespace Go.Proofs.YtplnhjmomomphaaGreatDoor
set_option linter.unusedVariables false
set_option linter.unusedSimpArgs false
open Go.RowKit
/-- what stands where in Cmp, behind its two products -/
structure Cm (w wr : World) (g g' tr t : Nat) (n d p q : Int) (xh xl yh yl : Nat) : Prop where
 below : Below w.heap.size w wr
 a : Blk wr w.heap.size tr #[.int .i64 n, .int .i64 d]
 b : Blk wr (w.heap.size + 1) tr #[.int .i64 p, .int .i64 q]
 x : Blk wr g t #[.int .u64 xh, .int .u64 xl]
 y : Blk wr g' t #[.int .u64 yh, .int .u64 yl]
theorem Cm.set {w wr : World} {g g' tr t : Nat} {n d p q : Int} {xh xl yh yl a1 a2 a3 a4 : Nat} (h : Cm w wr g g' tr t n d p q a1 a2 a3 a4) (k : w.heap.size + 2 ≤ g) (k' : w.heap.size + 2 ≤ g') (hne : g ≠ g') :
 Cm w ((((wr.setCell ⟨g, 0, none⟩ (.int .u64 xh)).setCell ⟨g, 1, none⟩ (.int .u64 xl)).setCell ⟨g', 0, none⟩ (.int .u64 yh)).setCell ⟨g', 1, none⟩ (.int .u64 yl)) g g' tr t n d p q xh xl yh yl :=
 ⟨(((h.below.setCell (by simp; omega) _).setCell (by simp; omega) _).setCell (by simp; omega) _).setCell (by simp; omega) _, (h.a.far2 (by omega) _ _ _ _).far2 (by omega) _ _ _ _, (h.b.far2 (by omega) _ _ _ _).far2 (by omega) _ _ _ _,
  (h.x.put2 _ _).far2 hne _ _ _ _, (h.y.far2 (Ne.symm hne) _ _ _ _).put2 _ _⟩
theorem Cm.grow {w wr : World} {g g' tr t : Nat} {n d p q : Int} {xh xl yh yl : Nat} (h : Cm w wr g g' tr t n d p q xh xl yh yl) (m : Ext wr) : Cm w (grow wr m) g g' tr t n d p q xh xl yh yl := ⟨below_grow h.below m, h.a.grow m, h.b.grow m, h.x.grow m, h.y.grow m⟩
end Go.Proofs.YtplnhjmomomphaaGreatDoor

namespace Go.Proofs.YtplnhjmomomphaaGreatDoor
set_option linter.unusedVariables false
set_option linter.unusedSimpArgs false
open Go.RowKit
/-- the fractions that lie in a slice -/
structure Rats (w : World) (oa : Option Addr) (len cap : Nat) (b o : Nat) (l : List Rt) : Prop where
 hlen : len = l.length
 hcap : len ≤ cap
 small : cap ≤ maxLen
 at_ : 0 < len → oa = some ⟨b, o, none⟩
 lt : 0 < len → b < w.heap.size
 c0 : ∀ (i : Nat) (r : Rt), l[i]? = some r → w.cell? ⟨b, o + i * 2, none⟩ = some (.int .i64 r.1)
 c1 : ∀ (i : Nat) (r : Rt), l[i]? = some r → w.cell? ⟨b, o + i * 2 + 1, none⟩ = some (.int .i64 r.2)
 is64 : ∀ (i : Nat) (r : Rt), l[i]? = some r → Is64 r
theorem Rats.below {w w' : World} {oa : Option Addr} {len cap b o : Nat} {l : List Rt} (h : Rats w oa len cap b o l) (hb : Below w.heap.size w w') : Rats w' oa len cap b o l := by
 have key : ∀ (i : Nat) (r : Rt), l[i]? = some r → 0 < len := fun i r hr => by
  have := (List.getElem?_eq_some_iff.1 hr).1
  rw [h.hlen]; omega
 refine ⟨h.hlen, h.hcap, h.small, h.at_, fun hl => Nat.lt_of_lt_of_le (h.lt hl) hb.size, fun i r hr => ?_, fun i r hr => ?_, h.is64⟩
 · rw [hb.cell (h.lt (key i r hr))]; exact h.c0 i r hr
 · rw [hb.cell (h.lt (key i r hr))]; exact h.c1 i r hr
/-- the program's loop -/
def firstG (sign : Int) : Bool → Rt → List Rt → Rt
 | _, out, [] => out
 | b, out, r :: l => if sureB r then firstG sign false (if b || cmpR r out == sign then r else out) l else (0, 0)
/-- where the loop of first stands -/
structure Gf (w wr : World) (tr : TypeId) (sign : Int) (l : List Rt) (i : Nat) (out : Rt) : Prop where
 below : Below w.heap.size w wr
 res : Blk wr w.heap.size tr #[.int .i64 0, .int .i64 0]
 best : Blk wr (w.heap.size + 1) tr #[.int .i64 out.1, .int .i64 out.2]
 i64 : Is64 out
 le : i ≤ l.length
 law : firstG sign (i == 0) out (l.drop i) = firstG sign true (0, 0) l
section
variable {w wr : World} {tr : TypeId} {sign : Int} {l : List Rt} {i : Nat} {out : Rt}
theorem Gf.alloc (h : Gf w wr tr sign l i out) (o : Obj) : Gf w (wr.alloc o) tr sign l i out := ⟨h.below.alloc h.below.size _, h.res.old _, h.best.old _, h.i64, h.le, h.law⟩
theorem Gf.grow (h : Gf w wr tr sign l i out) (m : Ext wr) : Gf w (grow wr m) tr sign l i out := ⟨below_grow h.below m, h.res.grow m, h.best.grow m, h.i64, h.le, h.law⟩
theorem Gf.set (h : Gf w wr tr sign l i out) {r : Rt} (h64 : Is64 r) (hi : i < l.length) (hl : firstG sign false r (l.drop (i + 1)) = firstG sign true (0, 0) l) :
 Gf w ((wr.setCell ⟨w.heap.size + 1, 0, none⟩ (.int .i64 r.1)).setCell ⟨w.heap.size + 1, 1, none⟩ (.int .i64 r.2)) tr sign l (i + 1) r :=
 ⟨(h.below.setCell (by first | omega | (simp; done) | (simp; omega)) _).setCell (by first | omega | (simp; done) | (simp; omega)) _, h.res.far2 (by first | omega | (simp; done) | (simp; omega)) _ _ _ _, h.best.put2 _ _, h64, hi, hl⟩
theorem Gf.next (h : Gf w wr tr sign l i out) (hi : i < l.length) (hl : firstG sign false out (l.drop (i + 1)) = firstG sign true (0, 0) l) : Gf w wr tr sign l (i + 1) out := ⟨h.below, h.res, h.best, h.i64, hi, hl⟩
end
end Go.Proofs.YtplnhjmomomphaaGreatDoor

namespace Go.Proofs.YtplnhjmomomphaaGreatDoor
set_option linter.unusedVariables false
set_option linter.unusedSimpArgs false
open Go.RowKit
/-- where the loop of folded stands -/
structure Gj (w wr : World) (tr : TypeId) (op : Rt → Rt → Rt) (l : List Rt) (x : Rt) (i : Nat) (out : Rt) : Prop where
 below : Below w.heap.size w wr
 res : Blk wr (w.heap.size + 1) tr #[.int .i64 0, .int .i64 0]
 best : Blk wr (w.heap.size + 1 + 1) tr #[.int .i64 out.1, .int .i64 out.2]
 i64 : Is64 out
 le : i ≤ l.length
 law : opG op out (l.drop i) = opG op x l
section
variable {w wr : World} {tr : TypeId} {op : Rt → Rt → Rt} {l : List Rt} {x : Rt} {i : Nat} {out : Rt}
theorem Gj.alloc (h : Gj w wr tr op l x i out) (o : Obj) : Gj w (wr.alloc o) tr op l x i out := ⟨h.below.alloc h.below.size _, h.res.old _, h.best.old _, h.i64, h.le, h.law⟩
theorem Gj.grow (h : Gj w wr tr op l x i out) (m : Ext wr) : Gj w (grow wr m) tr op l x i out := ⟨below_grow h.below m, h.res.grow m, h.best.grow m, h.i64, h.le, h.law⟩
theorem Gj.set (h : Gj w wr tr op l x i out) {r : Rt} (h64 : Is64 r) (hi : i < l.length) (hl : opG op r (l.drop (i + 1)) = opG op x l) :
 Gj w ((wr.setCell ⟨w.heap.size + 1 + 1, 0, none⟩ (.int .i64 r.1)).setCell ⟨w.heap.size + 1 + 1, 1, none⟩ (.int .i64 r.2)) tr op l x (i + 1) r :=
 ⟨(h.below.setCell (by first | omega | (simp; done) | (simp; omega)) _).setCell (by first | omega | (simp; done) | (simp; omega)) _, h.res.far2 (by first | omega | (simp; done) | (simp; omega)) _ _ _ _, h.best.put2 _ _, h64, hi, hl⟩
end
/-- all but the first -/
theorem Rats.tail {w : World} {oa : Option Addr} {cap b o : Nat} {x : Rt} {l : List Rt} (h : Rats w oa (x :: l).length cap b o (x :: l)) : Rats w (some ⟨b, o + 2, none⟩) l.length (cap - 1) b (o + 2) l := by
 have h1 := h.hcap
 have h2 := h.small
 simp only [List.length_cons] at h1
 have e : ∀ i, o + 2 + i * 2 = o + (i + 1) * 2 := fun i => by omega
 refine ⟨rfl, by omega, by omega, fun _ => rfl, fun _ => h.lt (by simp), fun i r hr => ?_, fun i r hr => ?_, fun i r hr => ?_⟩
 · rw [e]; exact h.c0 (i + 1) r (by simpa using hr)
 · rw [e]; exact h.c1 (i + 1) r (by simpa using hr)
 · exact h.is64 (i + 1) r (by simpa using hr)
end Go.Proofs.YtplnhjmomomphaaGreatDoor

namespace Go.Proofs.YtplnhjmomomphaaGreatDoor
set_option linter.unusedVariables false
set_option linter.unusedSimpArgs false
open Go.RowKit
set_option maxHeartbeats 1000000 in
theorem int_any (n : Int) (w : World) : Calls Tryz.prog 139 #[.int .i64 n] w fun e w' => e = .returned (rv (n, 1)) ∧ Below w.heap.size w w' := by
 go_enter Tryz.func139, Tryz.ntmps139
 go_wp2_with fail
 exact bodyPost_ret (v := .agg #[.int .i64 n, .int .i64 1]) (by simp [results, Tryz.results139, go_sem]) rfl ⟨rfl, (below_box _ _)⟩
end Go.Proofs.YtplnhjmomomphaaGreatDoor

namespace Go.Proofs.YtplnhjmomomphaaGreatDoor
set_option linter.unusedVariables false
set_option linter.unusedSimpArgs false
open Go.RowKit
/-- a call whose value is one of some -/
def Loose.val (i : Nat) (d : Tmp) (φ : Value → Prop) : Loose := ⟨i, d, none, fun v _ => φ v, fun _ => none, fun _ _ _ h _ => h⟩
theorem Loose.val_i (i : Nat) (d : Tmp) (φ : Value → Prop) : (Loose.val i d φ).i = i := rfl
theorem Loose.val_hush (i : Nat) (d : Tmp) (φ : Value → Prop) (o : Oper) : (Loose.val i d φ).hush o = { o with dst := none, op := .move (.const undef), guard := none } := rfl
theorem fill_val (V : Nat → Value) (i : Nat) (d : Tmp) (φ : Value → Prop) (cl : List Loose) (a : Act) : fill V (Loose.val i d φ :: cl) a = fill V cl (a.put (some d) (V i)) := rfl
theorem laws_val (V : Nat → Value) (w : World) (i : Nat) (d : Tmp) (φ : Value → Prop) (cl : List Loose) : lawsL V w (Loose.val i d φ :: cl) = (φ (V i) ∧ lawsL V w cl) := rfl
theorem dist_val (V : Nat → Value) (i : Nat) (d : Tmp) (φ : Value → Prop) (cl : List Loose) : distL V (Loose.val i d φ :: cl) = distL V cl := by
 have h : ∀ cl : List Loose, distL1 V (Loose.val i d φ) cl := fun cl => distL1_of fun L' _ k k' h => by cases h
 simp [distL, h]
theorem dist1_val (V : Nat → Value) (L : Loose) (i : Nat) (d : Tmp) (φ : Value → Prop) (cl : List Loose) : distL1 V L (Loose.val i d φ :: cl) = distL1 V L cl := by
 have h : ∀ k k', L.own (V L.i) = some k → (Loose.val i d φ).own (V i) = some k' → k ≠ k' := fun k k' _ h => by cases h
 exact propext ⟨fun h2 => h2.2, fun h2 => ⟨h, h2⟩⟩
/-- a new row of cells that are some, and a slice of all of it -/
def Loose.rowS (i : Nat) (d : Tmp) (t : TypeId) (k : Nat) (φ : Array Value → Prop) (k0 : Nat) : Loose :=
 ⟨i, d, none, fun v w => ∃ b cs, v = .slice (some ⟨b, 0, none⟩) k k ∧ k0 ≤ b ∧ φ cs ∧ Blk w b t cs, ownS, fun _ _ _ ⟨b, cs, h1, h0, hc, h2⟩ hb => ⟨b, cs, h1, h0, hc, h2.below hb h2.lt⟩⟩
theorem Loose.rowS_i (i : Nat) (d : Tmp) (t : TypeId) (k : Nat) (φ : Array Value → Prop) (k0 : Nat) : (Loose.rowS i d t k φ k0).i = i := rfl
theorem Loose.rowS_hush (i : Nat) (d : Tmp) (t : TypeId) (k : Nat) (φ : Array Value → Prop) (k0 : Nat) (o : Oper) : (Loose.rowS i d t k φ k0).hush o = { o with dst := none, op := .move (.const undef), guard := none } := rfl
theorem fill_rowS (V : Nat → Value) (i : Nat) (d : Tmp) (t : TypeId) (k : Nat) (φ : Array Value → Prop) (k0 : Nat) (cl : List Loose) (a : Act) : fill V (Loose.rowS i d t k φ k0 :: cl) a = fill V cl (a.put (some d) (V i)) := rfl
theorem laws_rowS (V : Nat → Value) (w : World) (i : Nat) (d : Tmp) (t : TypeId) (k : Nat) (φ : Array Value → Prop) (k0 : Nat) (cl : List Loose) : lawsL V w (Loose.rowS i d t k φ k0 :: cl) = ((∃ b cs, V i = .slice (some ⟨b, 0, none⟩) k k ∧ k0 ≤ b ∧ φ cs ∧ Blk w b t cs) ∧ lawsL V w cl) := rfl
theorem dist_rowS (V : Nat → Value) (i : Nat) (d : Tmp) (t : TypeId) (k : Nat) (φ : Array Value → Prop) (k0 : Nat) (cl : List Loose) : distL V (Loose.rowS i d t k φ k0 :: cl) = (distL1 V (Loose.rowS i d t k φ k0) cl ∧ distL V cl) := rfl
end Go.Proofs.YtplnhjmomomphaaGreatDoor

namespace Go.Proofs.YtplnhjmomomphaaGreatDoor
set_option linter.unusedVariables false
set_option linter.unusedSimpArgs false
open Go.RowKit
theorem infoByteB : ∃ i, Tryz.prog.info? 5 = some i ∧ i.zero = some (.int .u8 0) ∧ i.size = 1 ∧ i.bytes = 1 := by
 have h : (Tryz.prog.info? 5).map (fun i => (i.zero, i.size, i.bytes)) = some (some (.int .u8 0), 1, 1) := by kernel_rfl
 obtain ⟨i, hi, e⟩ := Option.map_eq_some_iff.1 h
 simp only [Prod.mk.injEq] at e
 exact ⟨i, hi, e.1, e.2.1, e.2.2⟩
theorem cellsByteB : Tryz.prog.cellsOf 5 = 1 := by kernel_rfl
theorem sizeBuilderB : ∃ i, Tryz.prog.info? 50 = some i ∧ i.size = 2 := by
 have h : (Tryz.prog.info? 50).map (·.size) = some 2 := by kernel_rfl
 exact Option.map_eq_some_iff.1 h
theorem liesBuilderB : liesAt Tryz.prog Tryz.prog.depth 52 (2 / Tryz.prog.cellsOf 52) 0 50 1 = true := by kernel_rfl
/-- a writer that holds a text -/
def IsW (B b : Nat) (l : List UInt8) (w : World) : Prop := Lib.IsBuilder 52 5 B b (Lib.byteCells l) w
/-- .. that has been written to -/
def IsWu (B b : Nat) (l : List UInt8) (w : World) : Prop := Lib.BuilderAt 52 5 B b (.pointer (some ⟨b, 0, none⟩)) (Lib.byteCells l) w
set_option maxRecDepth 20000 in
set_option maxHeartbeats 4000000 in
theorem copyCheck_used (b : Nat) (w : World) (h0 : w.cell? ⟨b, 0, none⟩ = some (.pointer (some ⟨b, 0, none⟩))) :
 Calls Tryz.prog 38 #[.pointer (some ⟨b, 0, none⟩)] w fun e w' => e = .returned (.tuple #[]) ∧ w' = w := by
 obtain ⟨j, hj, _⟩ := sizeBuilderB
 go_enter Tryz.func38, Tryz.ntmps38
 go_wp2
 rw [Lib.run_neq_ptr_same w _ Tryz.underlying47 hj]
 go_wp2
 go_end0
 exact ⟨rfl, rfl⟩
set_option maxRecDepth 20000 in
set_option maxHeartbeats 4000000 in
theorem copyCheck_fresh (b : Nat) (w : World) (h0 : w.cell? ⟨b, 0, none⟩ = some (.pointer none)) (hsh : w.shape? b = some (52, 2)) (hfz : w.frozen? ⟨b, 0, none⟩ = false) :
 Calls Tryz.prog 38 #[.pointer (some ⟨b, 0, none⟩)] w fun e w' => e = .returned (.tuple #[]) ∧ w' = w.setCell ⟨b, 0, none⟩ (.pointer (some ⟨b, 0, none⟩)) := by
 obtain ⟨j, hj, hjs⟩ := sizeBuilderB
 go_enter Tryz.func38, Tryz.ntmps38
 go_wp2
 rw [Lib.run_to_unsafe w ⟨b, 0, none⟩ Tryz.underlying47 Tryz.underlying99 hj (by rw [hjs]; decide) hsh (Nat.zero_lt_succ 1)]
 simp only [Result.andThen]
 rw [Oper.upon_value]
 go_wp2
 rw [run_callFunc_extern Tryz.func58 (by kernel_rfl) (by kernel_rfl) (by kernel_rfl) (e := Extern.AbiNoEscape.same) (by kernel_rfl)]
 rw [Lib.run_noEscape]
 simp only [Result.andThen]
 rw [Oper.upon_value]
 go_wp2
 rw [Lib.run_from_unsafe w ⟨b, 0, none⟩ Tryz.underlying99 Tryz.underlying47 hj hsh liesBuilderB]
 simp only [Result.andThen]
 rw [Oper.upon_value]
 go_wp2
 go_end0
 exact ⟨rfl, rfl⟩
theorem copyCheck_any (B b : Nat) (l : List UInt8) (w : World) (h : IsW B b l w) :
 Calls Tryz.prog 38 #[.pointer (some ⟨b, 0, none⟩)] w fun e w' => e = .returned (.tuple #[]) ∧ (IsWu B b l w' ∧ Below B w w' ∧ ∀ k, k ≠ b → w'.heap[k]? = w.heap[k]?) := by
 rcases h with h | h
 · refine (copyCheck_fresh b w h.cell0 h.shape h.frozen0).mono ?_
   rintro e w' ⟨rfl, rfl⟩
   exact ⟨rfl, h.used _, (Below.refl B w).setCell (p := ⟨b, 0, none⟩) h.1 _, fun k hk => Below.heap_setCell _ _ _ _ hk⟩
 · refine (copyCheck_used b w h.cell0).mono ?_
   rintro e w' ⟨rfl, rfl⟩
   exact ⟨rfl, h, Below.refl B _, fun _ _ => rfl⟩
/-- a text has been written: what else has not turned -/
structure Wb (B b : Nat) (l : List UInt8) (w w' : World) : Prop where
 is : IsW B b l w'
 below : Below B w w'
 keep : ∀ k T cs, k ≠ b → T ≠ 5 → Blk w k T cs → Blk w' k T cs
theorem IsW.lt {B b : Nat} {l : List UInt8} {w : World} (h : IsW B b l w) : b < w.heap.size := h.elim (fun h => h.lt) (fun h => h.lt)
theorem IsW.le {B b : Nat} {l : List UInt8} {w : World} (h : IsW B b l w) : B ≤ b := h.elim (fun h => h.1) (fun h => h.1)
theorem builderAt_below {B b : Nat} {p : Value} {bs : List Value} {w w' : World} (h : Lib.BuilderAt 52 5 B b p bs w) (hb : Below w.heap.size w w') : Lib.BuilderAt 52 5 B b p bs w' := by
 have hlt := h.lt
 obtain ⟨hB, v, hbk, hown, hne⟩ := h
 exact ⟨hB, v, (hb.block b hlt).trans hbk, hown.kept (row := none) ⟨hb.os, hb.tape, hb.output, hb.size, fun k hk _ => hb.block k hk⟩ (by cases hv : v.ownBlock <;> simp), hne⟩
theorem IsW.below {B b : Nat} {l : List UInt8} {w w' : World} (h : IsW B b l w) (hb : Below w.heap.size w w') : IsW B b l w' := h.imp (fun h => builderAt_below h hb) (fun h => builderAt_below h hb)
theorem Wb.trans {B b : Nat} {l l2 : List UInt8} {w w1 w2 : World} (h : Wb B b l w w1) (h2 : Wb B b l2 w1 w2) : Wb B b l2 w w2 :=
 ⟨h2.is, h.below.trans h2.below, fun k T cs hk hT hx => h2.keep k T cs hk hT (h.keep k T cs hk hT hx)⟩
theorem Wb.stays {B b : Nat} {l : List UInt8} {w w' : World} (h : IsW B b l w) (hBw : B ≤ w.heap.size) (hb : Below w.heap.size w w') : Wb B b l w w' :=
 ⟨h.below hb, hb.mono hBw, fun k T cs _ _ hx => hx.below hb hx.lt⟩
set_option maxRecDepth 20000 in
set_option maxHeartbeats 4000000 in
theorem writeString_any (B b : Nat) (l s : List UInt8) (w : World) (h : IsW B b l w) (hlen : l.length + s.length ≤ 140737488355328) (hBw : B ≤ w.heap.size) :
 Calls Tryz.prog 17 #[.pointer (some ⟨b, 0, none⟩), .string ⟨s.toArray⟩] w fun e w' => e = .returned (.tuple #[.int .i64 s.length, .nilIface]) ∧ Wb B b (l ++ s) w w' := by
 obtain ⟨i0, hi, hz0, hz1, hz2⟩ := infoByteB
 have hsz : (⟨s.toArray⟩ : ByteArray).size = s.length := by simp [ByteArray.size]
 go_enter Tryz.func17, Tryz.ntmps17
 go_wp2_with (refine (copyCheck_any B b l _ h).mono ?_)
 rintro e w1 ⟨rfl, h1, hb1, hk1⟩
 obtain ⟨hB, v, hbk, hown, hne⟩ := h1
 have c0 : w1.cell? ⟨b, 0, none⟩ = some (.pointer (some ⟨b, 0, none⟩)) := by rw [Lib.cell_of_heap hbk]; rfl
 have c1 : w1.cell? ⟨b, 1, none⟩ = some v := by rw [Lib.cell_of_heap hbk]; rfl
 rw [Lib.byteCells_length] at hown
 go_wp2_with (at_builtin; refine Lib.wpList_append_own_string _ rfl _ _ 48 9 rfl B 5 i0 Tryz.underlying48 Tryz.underlying9 hi hz0 hz1 hz2 _ _ _ rfl hown ⟨s.toArray⟩ rfl ?c3 ?c4 ?c5 ?_)
 case c3 => unfold maxLen; rw [hsz]; omega
 case c4 => rw [hsz]; omega
 case c5 => have := hb1.size; omega
 intro v' w2 hown' hgrow _
 have hlt : b < w1.heap.size := by
  rcases Nat.lt_or_ge b w1.heap.size with h' | h'
  · exact h'
  · simp [Array.getElem?_eq_none h'] at hbk
 have hb2 : w2.heap[b]? = some (.cells #[.pointer (some ⟨b, 0, none⟩), v] 52 (0, 0)) := by
  rw [hgrow.block b hlt (fun e => hne e.symm)]
  exact hbk
 have d0 : w2.cell? ⟨b, 0, none⟩ = some (.pointer (some ⟨b, 0, none⟩)) := by rw [Lib.cell_of_heap hb2]; rfl
 have d1 : w2.cell? ⟨b, 1, none⟩ = some v := by rw [Lib.cell_of_heap hb2]; rfl
 have f1 : w2.frozen? ⟨b, 1, none⟩ = false := Lib.frozen_of_heap hb2 1
 obtain ⟨ao, n', cap, rfl⟩ : ∃ ao n' cap, v' = .slice ao n' cap := by
  rcases hown'.2 with ⟨hv, _⟩ | ⟨g, cap, cur, hv, _⟩
  · exact ⟨_, _, _, hv⟩
  · exact ⟨_, _, _, hv⟩
 have hfin : Lib.BuilderAt 52 5 B b (.pointer (some ⟨b, 0, none⟩)) (Lib.byteCells (l ++ s)) (w2.setCell ⟨b, 1, none⟩ (.slice ao n' cap)) := by
  refine Lib.BuilderAt.put (T := 52) (e := 5) hB hb2 ?_ (by decide)
  rw [Lib.byteCells_length, List.length_append, Lib.byteCells_append]
  try rw [hsz] at hown'
  exact hown'
 have hfb : Below B w (w2.setCell ⟨b, 1, none⟩ (.slice ao n' cap)) := (hb1.grown hgrow (by have := hb1.size; omega) (fun k hk => (hown.lt k hk).1)).setCell (p := ⟨b, 1, none⟩) hB _
 have hkp : ∀ k T cs, k ≠ b → T ≠ 5 → Blk w k T cs → Blk (w2.setCell ⟨b, 1, none⟩ (.slice ao n' cap)) k T cs := by
  intro k T cs hkb hT hx
  have hx1 : Blk w1 k T cs := (hk1 k hkb).trans hx
  have hne2 : some k ≠ v.ownBlock := by
   intro e
   rcases hown.2 with ⟨rfl, _⟩ | ⟨g, cap, cur, rfl, _, hg, _⟩
   · cases e
   · simp only [Value.ownBlock, Option.some.injEq] at e
     subst e
     unfold Blk at hx1
     rw [hg] at hx1
     simp only [Option.some.injEq, Obj.cells.injEq] at hx1
     exact hT hx1.2.1.symm
  have hx2 : Blk w2 k T cs := (hgrow.block k hx1.lt hne2).trans hx1
  exact (Below.heap_setCell w2 ⟨b, 1, none⟩ _ k hkb).trans hx2
 have HF := Lib.hid (show Wb B b (l ++ s) w _ from ⟨Or.inr hfin, hfb, hkp⟩)
 clear hfin hfb hown' hgrow hown hkp hk1
 go_wp2
 go_ret2
 exact ⟨by first | rfl | (simp [hsz]; done), HF.out⟩
set_option maxRecDepth 20000 in
set_option maxHeartbeats 4000000 in
theorem builderString_some (B b : Nat) (l : List UInt8) (w : World) (h : IsW B b l w) (h0 : l ≠ []) :
 Calls Tryz.prog 20 #[.pointer (some ⟨b, 0, none⟩)] w fun e w' => e = .returned (.string ⟨l.toArray⟩) ∧ Below B w w' := by
 obtain ⟨p, hB, v, hbk, hown, hne⟩ : ∃ p, Lib.BuilderAt 52 5 B b p (Lib.byteCells l) w := by
  rcases h with h | h
  · exact ⟨_, h⟩
  · exact ⟨_, h⟩
 have hl0 : l.length ≠ 0 := by simpa using h0
 rw [Lib.byteCells_length] at hown
 obtain ⟨g, cap, cur, rfl, hbg, hg, hnc, hcm, hcs, htake⟩ : ∃ g cap cur, v = .slice (some ⟨g, 0, none⟩) l.length cap ∧ B ≤ g ∧ w.heap[g]? = some (.cells cur 5 (0, 0)) ∧ l.length ≤ cap ∧ cap ≤ maxLen ∧ cur.size = cap * 1 ∧ cur.toList.take (l.length * 1) = Lib.byteCells l := by
  rcases hown.2 with ⟨_, hz⟩ | ⟨g, cap, cur, hv, r⟩
  · exact absurd hz hl0
  · exact ⟨g, cap, cur, hv, r⟩
 have c1 : w.drew.cell? ⟨b, 1, none⟩ = some (.slice (some ⟨g, 0, none⟩) l.length cap) := by
  have : w.drew.heap[b]? = some (.cells #[p, .slice (some ⟨g, 0, none⟩) l.length cap] 52 (0, 0)) := hbk
  rw [Lib.cell_of_heap this]; rfl
 have hSD : (Builtin.unsafeSliceData_ #[48] 75 #[.slice (some ⟨g, 0, none⟩) l.length cap]).run Tryz.prog w.drew = .ok (.pointer (some ⟨g, 0, none⟩)) w.drew :=
  Lib.run_unsafeSliceData_row _ _ _ _ _ _ (by omega)
 have hUS : (Builtin.unsafeString_ #[75, 3] 9 #[.pointer (some ⟨g, 0, none⟩), .int .i64 l.length]).run Tryz.prog w.drew = .ok (.string ⟨l.toArray⟩) (w.drew.freeze ⟨g, 0, none⟩ l.length) := by
  refine Lib.run_unsafeString_row w.drew 75 3 9 5 Tryz.underlying75 cellsByteB g cur.size (by have hg' : w.drew.heap[g]? = some (.cells cur 5 (0, 0)) := hg; simp [World.shape?, hg']) l h0 (by omega) (by unfold maxLen at hcm; omega) ?_
  intro j x hx
  have := hown.cells (g := g) rfl j (.int .u8 x.toNat) (by simp [Lib.byteCells, hx])
  exact this
 go_enter Tryz.func20, Tryz.ntmps20
 go_wp2
 go_region
 all_goals (go_wp2; go_ret; exact ⟨rfl, Lib.below_freeze (Below.drew (Below.refl B w)) (p := ⟨g, 0, none⟩) hbg _⟩)
end Go.Proofs.YtplnhjmomomphaaGreatDoor
