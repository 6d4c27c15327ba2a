/- RatOrder's walk. -/
import Derived.Test.YtgjhaanpkfheeaaDoorOrder
import Derived.Test.YtgjhaanpkfheeaaDoorCondA
import Derived.Deep.CutBlock
import Derived.Deep.DeepCutAuto
namespace Go.Proofs.YtgjhaanpkfheeaaDoor
set_option linter.unusedVariables false
set_option linter.unusedSimpArgs false
open Go.RowKit

theorem may_sure (r : Rt) : (mayB r && decide (0 < r.2)) = sureB r := by
  unfold mayB
  obtain ⟨n, d⟩ := r
  cases h : sureB (n, d) with
  | true =>
    have := sureB_den h
    simp at this ⊢; omega
  | false =>
    simp; intro _ h2; omega

set_option maxHeartbeats 1000000 in
theorem lawis_any (r : Rt) (w : World) (h64 : Is64 r) :
    Calls Tryd.prog 8 #[rv r] w fun e w' => e = .returned (.bool (sureB r)) ∧ Below w.heap.size w w' := by
  have hm := fun w => may_any r w h64
  have hs := may_sure r
  obtain ⟨n, d⟩ := r
  simp only at hs
  cases hmay : mayB (n, d) with
  | false =>
    rw [hmay] at hm hs
    rw [← hs]
    have HM := Lib.hid hm
    clear hm hs hmay
    go_enter Tryd.func8, Tryd.ntmps8
    go_wp2_with fail
    ((with_reducible refine (HM.out _).mono ?_); rintro e w' ⟨rfl, hbw⟩)
    obtain ⟨m, rfl⟩ := grow_mk hbw
    clear hbw
    go_wp2_with fail
    go_ret
    exact ⟨rfl, below_grow (below_box _ _) _⟩
  | true =>
    rw [hmay] at hm hs
    rw [← hs]
    have HM := Lib.hid hm
    clear hm hs hmay
    go_enter Tryd.func8, Tryd.ntmps8
    go_wp2_with fail
    ((with_reducible refine (HM.out _).mono ?_); rintro e w' ⟨rfl, hbw⟩)
    obtain ⟨m, rfl⟩ := grow_mk hbw
    clear hbw
    go_wp2_with fail
    go_ret
    exact ⟨ret_bool (by simp), below_grow (below_box _ _) _⟩

/-- three fractions in boxes of their own -/
structure Bo (w wr : World) (t : TypeId) (a b c : Rt) : Prop where
  below : Below w.heap.size w wr
  pa : Blk wr w.heap.size t #[.int .i64 a.1, .int .i64 a.2]
  pb : Blk wr (w.heap.size + 1) t #[.int .i64 b.1, .int .i64 b.2]
  pc : Blk wr (w.heap.size + 1 + 1) t #[.int .i64 c.1, .int .i64 c.2]
theorem Bo.start (w : World) (t : TypeId) (a b c : Rt) : Bo w (((w.alloc (.cells #[.int .i64 a.1, .int .i64 a.2] t)).alloc (.cells #[.int .i64 b.1, .int .i64 b.2] t)).alloc (.cells #[.int .i64 c.1, .int .i64 c.2] t)) t a b c :=
  ⟨((below_box _ _).alloc (by simp) _).alloc (by simp; omega) _, ((Blk.new _ _ _).old _).old _, (Blk.new2 _ _ _ _).old _, (Blk.new _ _ _).moved (by simp)⟩
theorem Bo.grow {w wr : World} {t : TypeId} {a b c : Rt} (h : Bo w wr t a b c) (m : Ext wr) : Bo w (grow wr m) t a b c := ⟨below_grow h.below m, h.pa.grow m, h.pb.grow m, h.pc.grow m⟩
theorem Bo.alloc {w wr : World} {t : TypeId} {a b c : Rt} (h : Bo w wr t a b c) (o : Obj) : Bo w (wr.alloc o) t a b c := ⟨h.below.alloc h.below.size o, h.pa.old o, h.pb.old o, h.pc.old o⟩
theorem Bo.far2 {w wr : World} {t : TypeId} {a b c : Rt} (h : Bo w wr t a b c) {g : Nat} (hg : w.heap.size + 3 ≤ g) (x y : Value) : Bo w ((wr.setCell ⟨g, 0, none⟩ x).setCell ⟨g, 1, none⟩ y) t a b c :=
  ⟨(h.below.setCell (by simp; omega) _).setCell (by simp; omega) _, h.pa.far2 (by omega) _ _ _ _, h.pb.far2 (by omega) _ _ _ _, h.pc.far2 (by omega) _ _ _ _⟩

theorem rats_blk3 {W : World} {k : Nat} {t : TypeId} {x y z : Rt} (hb : Blk W k t #[.int .i64 x.1, .int .i64 x.2, .int .i64 y.1, .int .i64 y.2, .int .i64 z.1, .int .i64 z.2]) (hx : Is64 x) (hy : Is64 y) (hz : Is64 z) : Rats W (some ⟨k, 0, none⟩) 3 3 k 0 [x, y, z] := by
  have key : ∀ (P : Nat → Rt → Prop), P 0 x → P 1 y → P 2 z → ∀ (i : Nat) (r : Rt), [x, y, z][i]? = some r → P i r := fun P h0 h1 h2 i r hr => by
    match i, hr with
    | 0, hr => cases hr; exact h0
    | 1, hr => cases hr; exact h1
    | 2, hr => cases hr; exact h2
    | i + 3, hr => simp at hr
  refine ⟨rfl, Nat.le_refl _, by decide, fun _ => rfl, fun _ => hb.lt, key _ ?_ ?_ ?_, key _ ?_ ?_ ?_, key _ hx hy hz⟩
  · exact hb.cell 0
  · exact hb.cell 2
  · exact hb.cell 4
  · exact hb.cell 1
  · exact hb.cell 3
  · exact hb.cell 5

theorem two_puts {w we : World} {t : TypeId} {a b c : Rt} {g g' : Nat} {t1 t2 : TypeId} {o1 o2 o3 o4 : Value} (h : Bo w we t a b c) (hX : Blk we g t1 #[o1, o2]) (hY : Blk we g' t2 #[o3, o4]) (hk : w.heap.size + 3 ≤ g) (hk' : w.heap.size + 3 ≤ g') (hne : g ≠ g') (p1 p2 q1 q2 : Int) :
    Bo w ((((we.setCell ⟨g, 0, none⟩ (.int .i64 p1)).setCell ⟨g, 1, none⟩ (.int .i64 p2)).setCell ⟨g', 0, none⟩ (.int .i64 q1)).setCell ⟨g', 1, none⟩ (.int .i64 q2)) t a b c ∧
    Blk ((((we.setCell ⟨g, 0, none⟩ (.int .i64 p1)).setCell ⟨g, 1, none⟩ (.int .i64 p2)).setCell ⟨g', 0, none⟩ (.int .i64 q1)).setCell ⟨g', 1, none⟩ (.int .i64 q2)) g t1 #[.int .i64 p1, .int .i64 p2] ∧
    Blk ((((we.setCell ⟨g, 0, none⟩ (.int .i64 p1)).setCell ⟨g, 1, none⟩ (.int .i64 p2)).setCell ⟨g', 0, none⟩ (.int .i64 q1)).setCell ⟨g', 1, none⟩ (.int .i64 q2)) g' t2 #[.int .i64 q1, .int .i64 q2] :=
  ⟨(h.far2 hk _ _).far2 hk' _ _, (hX.put2 _ _).far2 hne _ _ _ _, (hY.far2 (Ne.symm hne) _ _ _ _).put2 _ _⟩

/-- whether two fractions are the same -/
def eqR (x1 x2 y1 y2 : Int) : Bool := decide (x1 = y1 ∧ x2 = y2)
theorem eqR_self (x1 x2 : Int) : eqR x1 x2 x1 x2 = true := by simp [eqR]
theorem eqR_ne {x1 x2 y1 y2 : Int} (h : ¬ (x1 = y1 ∧ x2 = y2)) : eqR x1 x2 y1 y2 = false := by simpa [eqR] using h

@[go_sem high] theorem run_eql_rat (x1 x2 y1 y2 : Int) (w : World) : (binOp .eql 23 (.agg #[.int .i64 x1, .int .i64 x2]) (.agg #[.int .i64 y1, .int .i64 y2])).run Tryd.prog w = .ok (.bool (eqR x1 x2 y1 y2)) w := by
  have h1 : (x1 == y1) = decide (x1 = y1) := rfl
  have h2 : (x2 == y2) = decide (x2 = y2) := rfl
  unfold eqR
  by_cases c1 : x1 = y1
  · subst c1
    by_cases c2 : x2 = y2
    · subst c2; simp [go_sem]
    · simp [go_sem, c2]
  · simp [go_sem, c1]

theorem eqR_of {x y : Rt} (h : x = y) : eqR x.1 x.2 y.1 y.2 = true := by rw [h]; exact eqR_self _ _
/-- one of three, by tests -/
theorem eq_three {m a b c : Rt} (h : m = a ∨ m = b ∨ m = c) : eqR m.1 m.2 a.1 a.2 = true ∨ (eqR m.1 m.2 a.1 a.2 = false ∧ eqR m.1 m.2 b.1 b.2 = true) ∨ (eqR m.1 m.2 a.1 a.2 = false ∧ eqR m.1 m.2 b.1 b.2 = false ∧ eqR m.1 m.2 c.1 c.2 = true) := by
  cases h1 : eqR m.1 m.2 a.1 a.2 with
  | true => exact Or.inl rfl
  | false =>
    right
    cases h2 : eqR m.1 m.2 b.1 b.2 with
    | true => exact Or.inl ⟨rfl, rfl⟩
    | false =>
      right
      refine ⟨rfl, rfl, ?_⟩
      rcases h with h | h | h
      · rw [eqR_of h] at h1; cases h1
      · rw [eqR_of h] at h2; cases h2
      · exact eqR_of h

end Go.Proofs.YtgjhaanpkfheeaaDoor
