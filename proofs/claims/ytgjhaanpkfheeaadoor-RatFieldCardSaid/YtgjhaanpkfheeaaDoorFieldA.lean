/- RatField's walk, where one is over. -/
import Derived.Test.YtgjhaanpkfheeaaDoorField
import Derived.Test.YtgjhaanpkfheeaaDoorOrderH
import Derived.Test.YtgjhaanpkfheeaaDoorLowestM
namespace Go.Proofs.YtgjhaanpkfheeaaDoor
set_option linter.unusedVariables false
set_option linter.unusedSimpArgs false
open Go.RowKit

@[go_sem high] theorem run_neq_rat (x1 x2 y1 y2 : Int) (w : World) : (binOp .neq 23 (.agg #[.int .i64 x1, .int .i64 x2]) (.agg #[.int .i64 y1, .int .i64 y2])).run Tryd.prog w = .ok (.bool (!eqR x1 x2 y1 y2)) w := by
  unfold eqR
  by_cases c1 : x1 = y1
  · subst c1
    by_cases c2 : x2 = y2
    · subst c2; simp [go_sem]
    · simp [go_sem, c2]
  · simp [go_sem, c1]

theorem mayB_opG {op : Rt → Rt → Rt} (h : ∀ a b, mayB (op a b) = true) : ∀ (l : List Rt) (x : Rt), mayB x = true → mayB (opG op x l) = true
  | [], _, hx => hx
  | r :: l, x, hx => by
    unfold opG
    split
    · exact mayB_opG h l _ (h _ _)
    · exact mayB_over
theorem is64_opG {op : Rt → Rt → Rt} (h : ∀ a b, Is64 (op a b)) : ∀ (l : List Rt) (x : Rt), Is64 x → Is64 (opG op x l)
  | [], _, hx => hx
  | r :: l, x, hx => by
    unfold opG
    split
    · exact is64_opG h l _ (h _ _)
    · exact is64_over
theorem mayB_sum3 (a b c : Rt) : mayB (foldR addF (0, 1) [a, b, c]) = true := by
  show mayB (if sureB a then opG addF a [b, c] else (0, 0)) = true
  by_cases h : sureB a = true
  · rw [if_pos h]; exact mayB_opG (fun a b => mayB_fracOf _ _ _) _ _ (mayB_sure h)
  · rw [if_neg h]; exact mayB_over
theorem is64_sum3 {a : Rt} (b c : Rt) (ha : Is64 a) : Is64 (foldR addF (0, 1) [a, b, c]) := by
  show Is64 (if sureB a then opG addF a [b, c] else (0, 0))
  split
  · exact is64_opG is64_addF _ _ ha
  · exact is64_over
theorem over_or_sure {s : Rt} (h : mayB s = true) : eqR s.1 s.2 0 0 = true ∨ (eqR s.1 s.2 0 0 = false ∧ sureB s = true) := by
  cases he : eqR s.1 s.2 0 0 with
  | true => exact Or.inl rfl
  | false =>
    refine Or.inr ⟨rfl, ?_⟩
    unfold mayB at h
    simp only [Bool.or_eq_true, Bool.and_eq_true, decide_eq_true_eq] at h
    rcases h with h | h
    · exfalso
      have : eqR s.1 s.2 0 0 = true := by simpa [eqR] using h
      rw [this] at he; cases he
    · exact h

theorem add_three (W : World) (t : TypeId) (k : Nat) (hk : W.heap.size = k) (x y z : Rt) (hx : Is64 x) (hy : Is64 y) (hz : Is64 z) :
    Calls Tryd.prog 9 #[.slice (some ⟨k, 0, none⟩) 3 3] (W.alloc (.cells #[.int .i64 x.1, .int .i64 x.2, .int .i64 y.1, .int .i64 y.2, .int .i64 z.1, .int .i64 z.2] t)) fun e w' => e = .returned (rv (foldR addF (0, 1) [x, y, z])) ∧ Below (W.alloc (.cells #[.int .i64 x.1, .int .i64 x.2, .int .i64 y.1, .int .i64 y.2, .int .i64 z.1, .int .i64 z.2] t)).heap.size (W.alloc (.cells #[.int .i64 x.1, .int .i64 x.2, .int .i64 y.1, .int .i64 y.2, .int .i64 z.1, .int .i64 z.2] t)) w' := by
  subst hk; exact add_any _ (rats_blk3 (Blk.new W t _) hx hy hz)

theorem below_more {w w1 : World} (h : Below w.heap.size w w1) (o : Obj) : Below w.heap.size w (w1.alloc o) := h.alloc h.size o

set_option maxRecDepth 20000 in
set_option maxHeartbeats 4000000 in
theorem field_out (a b c : Rt) (w : World) (ha : Is64 a) (hb : Is64 b) (hc : Is64 c) (h : (sureB a && sureB b && sureB c) = false) :
    Calls Tryd.prog 3 #[rv a, rv b, rv c] w fun e w' => e = .returned (.bool true) ∧ Below w.heap.size w w' := by
  have HW := Lib.hid (fun w => awakeR_any w)
  have hia := fun w => lawis_any a w ha
  have hib := fun w => lawis_any b w hb
  have hic := fun w => lawis_any c w hc
  have hs := fun W k hk => add_three W 23 k hk a b c ha hb hc
  have hm := over_or_sure (mayB_sum3 a b c)
  have hB0 := Bo.start w 23 a b c
  have hsi := fun w => lawis_any (foldR addF (0, 1) [a, b, c]) w (is64_sum3 b c ha)
  generalize foldR addF (0, 1) [a, b, c] = S at *
  obtain ⟨S1, S2⟩ := S
  simp only at hm
  have HS := Lib.hid hs
  have HM := Lib.hid hm
  clear hs hm
  cases sa : sureB a with
  | false =>
    rw [sa] at hia
    clear sa h
    obtain ⟨n, d⟩ := a; obtain ⟨p, q⟩ := b; obtain ⟨r, s⟩ := c
    have HIA := Lib.hid hia
    clear hia hib hic
    rcases HM.out with hm | ⟨hm, hm2⟩
    · clear hsi
      go_enter Tryd.func3, Tryd.ntmps3
      go_wp2_with fail
      ((with_reducible refine (HW.out _).mono ?_); rintro e w' ⟨rfl, hbw⟩)
      obtain ⟨m, rfl⟩ := grow_mk hbw
      clear hbw
      go_wp2_with fail
      ((with_reducible refine (HIA.out _).mono ?_); rintro e w' ⟨rfl, hbw⟩)
      obtain ⟨m1, rfl⟩ := grow_mk hbw
      clear hbw
      go_upto_region 4 with fail
      replace hB0 := hB0.grow (m.trans m1)
      generalize grow _ (m.trans m1) = wr at *
      have ca0 : wr.cell? ⟨w.heap.size, 0, none⟩ = some (.int .i64 n) := (hB0.pa).cell 0
      have fca0 := (hB0.pa).frozen 0
      have ca1 : wr.cell? ⟨w.heap.size, 1, none⟩ = some (.int .i64 d) := (hB0.pa).cell 1
      have fca1 := (hB0.pa).frozen 1
      have lca := (hB0.pa).lt
      have cb0 : wr.cell? ⟨w.heap.size + 1, 0, none⟩ = some (.int .i64 p) := (hB0.pb).cell 0
      have fcb0 := (hB0.pb).frozen 0
      have cb1 : wr.cell? ⟨w.heap.size + 1, 1, none⟩ = some (.int .i64 q) := (hB0.pb).cell 1
      have fcb1 := (hB0.pb).frozen 1
      have lcb := (hB0.pb).lt
      have cc0 : wr.cell? ⟨w.heap.size + 1 + 1, 0, none⟩ = some (.int .i64 r) := (hB0.pc).cell 0
      have fcc0 := (hB0.pc).frozen 0
      have cc1 : wr.cell? ⟨w.heap.size + 1 + 1, 1, none⟩ = some (.int .i64 s) := (hB0.pc).cell 1
      have fcc1 := (hB0.pc).frozen 1
      have lcc := (hB0.pc).lt
      go_wp2_with fail
      ((with_reducible refine (HS.out _ _ rfl).mono ?_); rintro e w' ⟨rfl, hbw⟩)
      obtain ⟨m4, rfl⟩ := grow_mk hbw
      clear hbw
      go_wp2_with fail
      go_ret
      exact ⟨rfl, by repeat first | exact hB0.below | refine below_grow ?_ _ | refine below_more ?_ _⟩
    · rw [hm2] at hsi
      have HSI := Lib.hid hsi
      clear hm2 hsi
      go_enter Tryd.func3, Tryd.ntmps3
      go_wp2_with fail
      ((with_reducible refine (HW.out _).mono ?_); rintro e w' ⟨rfl, hbw⟩)
      obtain ⟨m, rfl⟩ := grow_mk hbw
      clear hbw
      go_wp2_with fail
      ((with_reducible refine (HIA.out _).mono ?_); rintro e w' ⟨rfl, hbw⟩)
      obtain ⟨m1, rfl⟩ := grow_mk hbw
      clear hbw
      go_upto_region 4 with fail
      replace hB0 := hB0.grow (m.trans m1)
      generalize grow _ (m.trans m1) = wr at *
      have ca0 : wr.cell? ⟨w.heap.size, 0, none⟩ = some (.int .i64 n) := (hB0.pa).cell 0
      have fca0 := (hB0.pa).frozen 0
      have ca1 : wr.cell? ⟨w.heap.size, 1, none⟩ = some (.int .i64 d) := (hB0.pa).cell 1
      have fca1 := (hB0.pa).frozen 1
      have lca := (hB0.pa).lt
      have cb0 : wr.cell? ⟨w.heap.size + 1, 0, none⟩ = some (.int .i64 p) := (hB0.pb).cell 0
      have fcb0 := (hB0.pb).frozen 0
      have cb1 : wr.cell? ⟨w.heap.size + 1, 1, none⟩ = some (.int .i64 q) := (hB0.pb).cell 1
      have fcb1 := (hB0.pb).frozen 1
      have lcb := (hB0.pb).lt
      have cc0 : wr.cell? ⟨w.heap.size + 1 + 1, 0, none⟩ = some (.int .i64 r) := (hB0.pc).cell 0
      have fcc0 := (hB0.pc).frozen 0
      have cc1 : wr.cell? ⟨w.heap.size + 1 + 1, 1, none⟩ = some (.int .i64 s) := (hB0.pc).cell 1
      have fcc1 := (hB0.pc).frozen 1
      have lcc := (hB0.pc).lt
      go_wp2_with fail
      ((with_reducible refine (HS.out _ _ rfl).mono ?_); rintro e w' ⟨rfl, hbw⟩)
      obtain ⟨m4, rfl⟩ := grow_mk hbw
      clear hbw
      clear ca0 ca1 fca0 fca1 lca cb0 cb1 fcb0 fcb1 lcb cc0 cc1 fcc0 fcc1 lcc
      replace hB0 := (hB0.alloc (.cells #[.int .i64 n, .int .i64 d, .int .i64 p, .int .i64 q, .int .i64 r, .int .i64 s] 23)).grow m4
      generalize grow _ m4 = wq at *
      have ca0 : wq.cell? ⟨w.heap.size, 0, none⟩ = some (.int .i64 n) := (hB0.pa).cell 0
      have fca0 := (hB0.pa).frozen 0
      have ca1 : wq.cell? ⟨w.heap.size, 1, none⟩ = some (.int .i64 d) := (hB0.pa).cell 1
      have fca1 := (hB0.pa).frozen 1
      have lca := (hB0.pa).lt
      have cb0 : wq.cell? ⟨w.heap.size + 1, 0, none⟩ = some (.int .i64 p) := (hB0.pb).cell 0
      have fcb0 := (hB0.pb).frozen 0
      have cb1 : wq.cell? ⟨w.heap.size + 1, 1, none⟩ = some (.int .i64 q) := (hB0.pb).cell 1
      have fcb1 := (hB0.pb).frozen 1
      have lcb := (hB0.pb).lt
      have cc0 : wq.cell? ⟨w.heap.size + 1 + 1, 0, none⟩ = some (.int .i64 r) := (hB0.pc).cell 0
      have fcc0 := (hB0.pc).frozen 0
      have cc1 : wq.cell? ⟨w.heap.size + 1 + 1, 1, none⟩ = some (.int .i64 s) := (hB0.pc).cell 1
      have fcc1 := (hB0.pc).frozen 1
      have lcc := (hB0.pc).lt
      go_wp2_with fail
      ((with_reducible refine (HS.out _ _ rfl).mono ?_); rintro e w' ⟨rfl, hbw⟩)
      obtain ⟨m5, rfl⟩ := grow_mk hbw
      clear hbw
      go_wp2_with fail
      ((with_reducible refine (HSI.out _).mono ?_); rintro e w' ⟨rfl, hbw⟩)
      obtain ⟨m6, rfl⟩ := grow_mk hbw
      clear hbw
      go_wp2_with fail
      go_ret
      exact ⟨rfl, by repeat first | exact hB0.below | refine below_grow ?_ _ | refine below_more ?_ _⟩
  | true =>
    rw [sa] at hia
    rw [sa, Bool.true_and] at h
    cases sb : sureB b with
    | false =>
      rw [sb] at hib
      clear sa sb h
      obtain ⟨n, d⟩ := a; obtain ⟨p, q⟩ := b; obtain ⟨r, s⟩ := c
      have HIA := Lib.hid hia
      have HIB := Lib.hid hib
      clear hia hib hic
      rcases HM.out with hm | ⟨hm, hm2⟩
      · clear hsi
        go_enter Tryd.func3, Tryd.ntmps3
        go_wp2_with fail
        ((with_reducible refine (HW.out _).mono ?_); rintro e w' ⟨rfl, hbw⟩)
        obtain ⟨m, rfl⟩ := grow_mk hbw
        clear hbw
        go_wp2_with fail
        ((with_reducible refine (HIA.out _).mono ?_); rintro e w' ⟨rfl, hbw⟩)
        obtain ⟨m1, rfl⟩ := grow_mk hbw
        clear hbw
        go_wp2_with fail
        ((with_reducible refine (HIB.out _).mono ?_); rintro e w' ⟨rfl, hbw⟩)
        obtain ⟨m2, rfl⟩ := grow_mk hbw
        clear hbw
        go_upto_region 4 with fail
        replace hB0 := hB0.grow ((m.trans m1).trans m2)
        generalize grow _ ((m.trans m1).trans m2) = wr at *
        have ca0 : wr.cell? ⟨w.heap.size, 0, none⟩ = some (.int .i64 n) := (hB0.pa).cell 0
        have fca0 := (hB0.pa).frozen 0
        have ca1 : wr.cell? ⟨w.heap.size, 1, none⟩ = some (.int .i64 d) := (hB0.pa).cell 1
        have fca1 := (hB0.pa).frozen 1
        have lca := (hB0.pa).lt
        have cb0 : wr.cell? ⟨w.heap.size + 1, 0, none⟩ = some (.int .i64 p) := (hB0.pb).cell 0
        have fcb0 := (hB0.pb).frozen 0
        have cb1 : wr.cell? ⟨w.heap.size + 1, 1, none⟩ = some (.int .i64 q) := (hB0.pb).cell 1
        have fcb1 := (hB0.pb).frozen 1
        have lcb := (hB0.pb).lt
        have cc0 : wr.cell? ⟨w.heap.size + 1 + 1, 0, none⟩ = some (.int .i64 r) := (hB0.pc).cell 0
        have fcc0 := (hB0.pc).frozen 0
        have cc1 : wr.cell? ⟨w.heap.size + 1 + 1, 1, none⟩ = some (.int .i64 s) := (hB0.pc).cell 1
        have fcc1 := (hB0.pc).frozen 1
        have lcc := (hB0.pc).lt
        go_wp2_with fail
        ((with_reducible refine (HS.out _ _ rfl).mono ?_); rintro e w' ⟨rfl, hbw⟩)
        obtain ⟨m4, rfl⟩ := grow_mk hbw
        clear hbw
        go_wp2_with fail
        go_ret
        exact ⟨rfl, by repeat first | exact hB0.below | refine below_grow ?_ _ | refine below_more ?_ _⟩
      · rw [hm2] at hsi
        have HSI := Lib.hid hsi
        clear hm2 hsi
        go_enter Tryd.func3, Tryd.ntmps3
        go_wp2_with fail
        ((with_reducible refine (HW.out _).mono ?_); rintro e w' ⟨rfl, hbw⟩)
        obtain ⟨m, rfl⟩ := grow_mk hbw
        clear hbw
        go_wp2_with fail
        ((with_reducible refine (HIA.out _).mono ?_); rintro e w' ⟨rfl, hbw⟩)
        obtain ⟨m1, rfl⟩ := grow_mk hbw
        clear hbw
        go_wp2_with fail
        ((with_reducible refine (HIB.out _).mono ?_); rintro e w' ⟨rfl, hbw⟩)
        obtain ⟨m2, rfl⟩ := grow_mk hbw
        clear hbw
        go_upto_region 4 with fail
        replace hB0 := hB0.grow ((m.trans m1).trans m2)
        generalize grow _ ((m.trans m1).trans m2) = wr at *
        have ca0 : wr.cell? ⟨w.heap.size, 0, none⟩ = some (.int .i64 n) := (hB0.pa).cell 0
        have fca0 := (hB0.pa).frozen 0
        have ca1 : wr.cell? ⟨w.heap.size, 1, none⟩ = some (.int .i64 d) := (hB0.pa).cell 1
        have fca1 := (hB0.pa).frozen 1
        have lca := (hB0.pa).lt
        have cb0 : wr.cell? ⟨w.heap.size + 1, 0, none⟩ = some (.int .i64 p) := (hB0.pb).cell 0
        have fcb0 := (hB0.pb).frozen 0
        have cb1 : wr.cell? ⟨w.heap.size + 1, 1, none⟩ = some (.int .i64 q) := (hB0.pb).cell 1
        have fcb1 := (hB0.pb).frozen 1
        have lcb := (hB0.pb).lt
        have cc0 : wr.cell? ⟨w.heap.size + 1 + 1, 0, none⟩ = some (.int .i64 r) := (hB0.pc).cell 0
        have fcc0 := (hB0.pc).frozen 0
        have cc1 : wr.cell? ⟨w.heap.size + 1 + 1, 1, none⟩ = some (.int .i64 s) := (hB0.pc).cell 1
        have fcc1 := (hB0.pc).frozen 1
        have lcc := (hB0.pc).lt
        go_wp2_with fail
        ((with_reducible refine (HS.out _ _ rfl).mono ?_); rintro e w' ⟨rfl, hbw⟩)
        obtain ⟨m4, rfl⟩ := grow_mk hbw
        clear hbw
        clear ca0 ca1 fca0 fca1 lca cb0 cb1 fcb0 fcb1 lcb cc0 cc1 fcc0 fcc1 lcc
        replace hB0 := (hB0.alloc (.cells #[.int .i64 n, .int .i64 d, .int .i64 p, .int .i64 q, .int .i64 r, .int .i64 s] 23)).grow m4
        generalize grow _ m4 = wq at *
        have ca0 : wq.cell? ⟨w.heap.size, 0, none⟩ = some (.int .i64 n) := (hB0.pa).cell 0
        have fca0 := (hB0.pa).frozen 0
        have ca1 : wq.cell? ⟨w.heap.size, 1, none⟩ = some (.int .i64 d) := (hB0.pa).cell 1
        have fca1 := (hB0.pa).frozen 1
        have lca := (hB0.pa).lt
        have cb0 : wq.cell? ⟨w.heap.size + 1, 0, none⟩ = some (.int .i64 p) := (hB0.pb).cell 0
        have fcb0 := (hB0.pb).frozen 0
        have cb1 : wq.cell? ⟨w.heap.size + 1, 1, none⟩ = some (.int .i64 q) := (hB0.pb).cell 1
        have fcb1 := (hB0.pb).frozen 1
        have lcb := (hB0.pb).lt
        have cc0 : wq.cell? ⟨w.heap.size + 1 + 1, 0, none⟩ = some (.int .i64 r) := (hB0.pc).cell 0
        have fcc0 := (hB0.pc).frozen 0
        have cc1 : wq.cell? ⟨w.heap.size + 1 + 1, 1, none⟩ = some (.int .i64 s) := (hB0.pc).cell 1
        have fcc1 := (hB0.pc).frozen 1
        have lcc := (hB0.pc).lt
        go_wp2_with fail
        ((with_reducible refine (HS.out _ _ rfl).mono ?_); rintro e w' ⟨rfl, hbw⟩)
        obtain ⟨m5, rfl⟩ := grow_mk hbw
        clear hbw
        go_wp2_with fail
        ((with_reducible refine (HSI.out _).mono ?_); rintro e w' ⟨rfl, hbw⟩)
        obtain ⟨m6, rfl⟩ := grow_mk hbw
        clear hbw
        go_wp2_with fail
        go_ret
        exact ⟨rfl, by repeat first | exact hB0.below | refine below_grow ?_ _ | refine below_more ?_ _⟩
    | true =>
      rw [sb] at hib
      rw [sb, Bool.true_and] at h
      rw [h] at hic
      clear sa sb h
      obtain ⟨n, d⟩ := a; obtain ⟨p, q⟩ := b; obtain ⟨r, s⟩ := c
      have HIA := Lib.hid hia
      have HIB := Lib.hid hib
      have HIC := Lib.hid hic
      clear hia hib hic
      rcases HM.out with hm | ⟨hm, hm2⟩
      · clear hsi
        go_enter Tryd.func3, Tryd.ntmps3
        go_wp2_with fail
        ((with_reducible refine (HW.out _).mono ?_); rintro e w' ⟨rfl, hbw⟩)
        obtain ⟨m, rfl⟩ := grow_mk hbw
        clear hbw
        go_wp2_with fail
        ((with_reducible refine (HIA.out _).mono ?_); rintro e w' ⟨rfl, hbw⟩)
        obtain ⟨m1, rfl⟩ := grow_mk hbw
        clear hbw
        go_wp2_with fail
        ((with_reducible refine (HIB.out _).mono ?_); rintro e w' ⟨rfl, hbw⟩)
        obtain ⟨m2, rfl⟩ := grow_mk hbw
        clear hbw
        go_wp2_with fail
        ((with_reducible refine (HIC.out _).mono ?_); rintro e w' ⟨rfl, hbw⟩)
        obtain ⟨m3, rfl⟩ := grow_mk hbw
        clear hbw
        go_upto_region 4 with fail
        replace hB0 := hB0.grow (((m.trans m1).trans m2).trans m3)
        generalize grow _ (((m.trans m1).trans m2).trans m3) = wr at *
        have ca0 : wr.cell? ⟨w.heap.size, 0, none⟩ = some (.int .i64 n) := (hB0.pa).cell 0
        have fca0 := (hB0.pa).frozen 0
        have ca1 : wr.cell? ⟨w.heap.size, 1, none⟩ = some (.int .i64 d) := (hB0.pa).cell 1
        have fca1 := (hB0.pa).frozen 1
        have lca := (hB0.pa).lt
        have cb0 : wr.cell? ⟨w.heap.size + 1, 0, none⟩ = some (.int .i64 p) := (hB0.pb).cell 0
        have fcb0 := (hB0.pb).frozen 0
        have cb1 : wr.cell? ⟨w.heap.size + 1, 1, none⟩ = some (.int .i64 q) := (hB0.pb).cell 1
        have fcb1 := (hB0.pb).frozen 1
        have lcb := (hB0.pb).lt
        have cc0 : wr.cell? ⟨w.heap.size + 1 + 1, 0, none⟩ = some (.int .i64 r) := (hB0.pc).cell 0
        have fcc0 := (hB0.pc).frozen 0
        have cc1 : wr.cell? ⟨w.heap.size + 1 + 1, 1, none⟩ = some (.int .i64 s) := (hB0.pc).cell 1
        have fcc1 := (hB0.pc).frozen 1
        have lcc := (hB0.pc).lt
        go_wp2_with fail
        ((with_reducible refine (HS.out _ _ rfl).mono ?_); rintro e w' ⟨rfl, hbw⟩)
        obtain ⟨m4, rfl⟩ := grow_mk hbw
        clear hbw
        go_wp2_with fail
        go_ret
        exact ⟨rfl, by repeat first | exact hB0.below | refine below_grow ?_ _ | refine below_more ?_ _⟩
      · rw [hm2] at hsi
        have HSI := Lib.hid hsi
        clear hm2 hsi
        go_enter Tryd.func3, Tryd.ntmps3
        go_wp2_with fail
        ((with_reducible refine (HW.out _).mono ?_); rintro e w' ⟨rfl, hbw⟩)
        obtain ⟨m, rfl⟩ := grow_mk hbw
        clear hbw
        go_wp2_with fail
        ((with_reducible refine (HIA.out _).mono ?_); rintro e w' ⟨rfl, hbw⟩)
        obtain ⟨m1, rfl⟩ := grow_mk hbw
        clear hbw
        go_wp2_with fail
        ((with_reducible refine (HIB.out _).mono ?_); rintro e w' ⟨rfl, hbw⟩)
        obtain ⟨m2, rfl⟩ := grow_mk hbw
        clear hbw
        go_wp2_with fail
        ((with_reducible refine (HIC.out _).mono ?_); rintro e w' ⟨rfl, hbw⟩)
        obtain ⟨m3, rfl⟩ := grow_mk hbw
        clear hbw
        go_upto_region 4 with fail
        replace hB0 := hB0.grow (((m.trans m1).trans m2).trans m3)
        generalize grow _ (((m.trans m1).trans m2).trans m3) = wr at *
        have ca0 : wr.cell? ⟨w.heap.size, 0, none⟩ = some (.int .i64 n) := (hB0.pa).cell 0
        have fca0 := (hB0.pa).frozen 0
        have ca1 : wr.cell? ⟨w.heap.size, 1, none⟩ = some (.int .i64 d) := (hB0.pa).cell 1
        have fca1 := (hB0.pa).frozen 1
        have lca := (hB0.pa).lt
        have cb0 : wr.cell? ⟨w.heap.size + 1, 0, none⟩ = some (.int .i64 p) := (hB0.pb).cell 0
        have fcb0 := (hB0.pb).frozen 0
        have cb1 : wr.cell? ⟨w.heap.size + 1, 1, none⟩ = some (.int .i64 q) := (hB0.pb).cell 1
        have fcb1 := (hB0.pb).frozen 1
        have lcb := (hB0.pb).lt
        have cc0 : wr.cell? ⟨w.heap.size + 1 + 1, 0, none⟩ = some (.int .i64 r) := (hB0.pc).cell 0
        have fcc0 := (hB0.pc).frozen 0
        have cc1 : wr.cell? ⟨w.heap.size + 1 + 1, 1, none⟩ = some (.int .i64 s) := (hB0.pc).cell 1
        have fcc1 := (hB0.pc).frozen 1
        have lcc := (hB0.pc).lt
        go_wp2_with fail
        ((with_reducible refine (HS.out _ _ rfl).mono ?_); rintro e w' ⟨rfl, hbw⟩)
        obtain ⟨m4, rfl⟩ := grow_mk hbw
        clear hbw
        clear ca0 ca1 fca0 fca1 lca cb0 cb1 fcb0 fcb1 lcb cc0 cc1 fcc0 fcc1 lcc
        replace hB0 := (hB0.alloc (.cells #[.int .i64 n, .int .i64 d, .int .i64 p, .int .i64 q, .int .i64 r, .int .i64 s] 23)).grow m4
        generalize grow _ m4 = wq at *
        have ca0 : wq.cell? ⟨w.heap.size, 0, none⟩ = some (.int .i64 n) := (hB0.pa).cell 0
        have fca0 := (hB0.pa).frozen 0
        have ca1 : wq.cell? ⟨w.heap.size, 1, none⟩ = some (.int .i64 d) := (hB0.pa).cell 1
        have fca1 := (hB0.pa).frozen 1
        have lca := (hB0.pa).lt
        have cb0 : wq.cell? ⟨w.heap.size + 1, 0, none⟩ = some (.int .i64 p) := (hB0.pb).cell 0
        have fcb0 := (hB0.pb).frozen 0
        have cb1 : wq.cell? ⟨w.heap.size + 1, 1, none⟩ = some (.int .i64 q) := (hB0.pb).cell 1
        have fcb1 := (hB0.pb).frozen 1
        have lcb := (hB0.pb).lt
        have cc0 : wq.cell? ⟨w.heap.size + 1 + 1, 0, none⟩ = some (.int .i64 r) := (hB0.pc).cell 0
        have fcc0 := (hB0.pc).frozen 0
        have cc1 : wq.cell? ⟨w.heap.size + 1 + 1, 1, none⟩ = some (.int .i64 s) := (hB0.pc).cell 1
        have fcc1 := (hB0.pc).frozen 1
        have lcc := (hB0.pc).lt
        go_wp2_with fail
        ((with_reducible refine (HS.out _ _ rfl).mono ?_); rintro e w' ⟨rfl, hbw⟩)
        obtain ⟨m5, rfl⟩ := grow_mk hbw
        clear hbw
        go_wp2_with fail
        ((with_reducible refine (HSI.out _).mono ?_); rintro e w' ⟨rfl, hbw⟩)
        obtain ⟨m6, rfl⟩ := grow_mk hbw
        clear hbw
        go_wp2_with fail
        go_ret
        exact ⟨rfl, by repeat first | exact hB0.below | refine below_grow ?_ _ | refine below_more ?_ _⟩

end Go.Proofs.YtgjhaanpkfheeaaDoor
