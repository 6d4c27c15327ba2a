/- RatField's walk, where none is over. -/
import Derived.Test.YtgjhaanpkfheeaaDoorFieldE
import Derived.Deep.CutBlock
import Derived.Deep.DeepCutAuto
namespace Go.Proofs.YtgjhaanpkfheeaaDoor
set_option linter.unusedVariables false
set_option linter.unusedSimpArgs false
open Go.RowKit

set_option maxRecDepth 20000 in
set_option maxHeartbeats 4000000 in
theorem field_in (a b c : Rt) (w : World) (ha : Is64 a) (hb : Is64 b) (hc : Is64 c) (sa : sureB a = true) (sb : sureB b = true) (sc : sureB c = true)
    (hn0 : w.cell? ⟨0, 0, none⟩ = some (.int .i64 0)) (hn1 : w.cell? ⟨0, 1, none⟩ = some (.int .i64 1)) :
    Calls Tryd.prog 3 #[rv a, rv b, rv c] w fun e w' => e = .returned (.bool true) ∧ Below w.heap.size w w' := by
  have HW := Lib.hid (fun w => awakeR_any w)
  have hnl : 0 < w.heap.size := World.block_lt_of_cell? w _ hn0
  have hia := fun w => lawis_any a w ha
  have hib := fun w => lawis_any b w hb
  have hic := fun w => lawis_any c w hc
  rw [sa] at hia
  rw [sb] at hib
  rw [sc] at hic
  have hB0 := Bo.start w 23 a b c
  have hab := fun W k t (h : Blk W k t #[.int .i64 a.1, .int .i64 a.2, .int .i64 b.1, .int .i64 b.2]) => add_any W (rats_blk h ha hb)
  have hba := fun W k t (h : Blk W k t #[.int .i64 b.1, .int .i64 b.2, .int .i64 a.1, .int .i64 a.2]) => add_any W (rats_blk h hb ha)
  have hmab := fun W k t (h : Blk W k t #[.int .i64 a.1, .int .i64 a.2, .int .i64 b.1, .int .i64 b.2]) => mul_any W (rats_blk h ha hb)
  have hmba := fun W k t (h : Blk W k t #[.int .i64 b.1, .int .i64 b.2, .int .i64 a.1, .int .i64 a.2]) => mul_any W (rats_blk h hb ha)
  rw [foldR_two] at hab hba hmab hmba
  rw [f_add_comm sb sa] at hba
  rw [f_mul_comm sb sa] at hmba
  have hna := fun w => neg_any a w ha
  have n64 := is64_negF ha
  have hnn := fun w => neg_any (negF a) w n64
  rw [f_neg_neg sa ha] at hnn
  have han := fun W k t (h : Blk W k t #[.int .i64 a.1, .int .i64 a.2, .int .i64 (negF a).1, .int .i64 (negF a).2]) => add_any W (rats_blk h ha n64)
  rw [foldR_two, f_add_neg sa ha] at han
  have hS64 := is64_op2 is64_addF a b
  have hP64 := is64_op2 is64_mulF a b
  have hSC : (∀ w, Calls Tryd.prog 8 #[rv (op2 addF a b)] w fun e w' => e = .returned (.bool true) ∧ Below w.heap.size w w') ∧ (∀ w, Calls Tryd.prog 12 #[rv (op2 addF a b), rv b] w fun e w' => e = .returned (rv a) ∧ Below w.heap.size w w') ∨ (∀ w, Calls Tryd.prog 8 #[rv (op2 addF a b)] w fun e w' => e = .returned (.bool false) ∧ Below w.heap.size w w') := by
    have hi := fun w => lawis_any (op2 addF a b) w hS64
    cases h : sureB (op2 addF a b) with
    | false => rw [h] at hi; exact Or.inr hi
    | true =>
      rw [h] at hi
      have hs := fun w => sub_any (op2 addF a b) b w hS64 hb
      rw [f_sub sa sb ha hb h] at hs
      exact Or.inl ⟨hi, hs⟩
  have hPC : ((∀ w, Calls Tryd.prog 8 #[rv (op2 mulF a b)] w fun e w' => e = .returned (.bool true) ∧ Below w.heap.size w w') ∧ b.1 ≠ 0 ∧ ∀ w, Calls Tryd.prog 13 #[rv (op2 mulF a b), rv b] w fun e w' => e = .returned (rv a) ∧ Below w.heap.size w w') ∨ ((∀ w, Calls Tryd.prog 8 #[rv (op2 mulF a b)] w fun e w' => e = .returned (.bool true) ∧ Below w.heap.size w w') ∧ b.1 = 0) ∨ (∀ w, Calls Tryd.prog 8 #[rv (op2 mulF a b)] w fun e w' => e = .returned (.bool false) ∧ Below w.heap.size w w') := by
    have hi := fun w => lawis_any (op2 mulF a b) w hP64
    cases h : sureB (op2 mulF a b) with
    | false => rw [h] at hi; exact Or.inr (Or.inr hi)
    | true =>
      rw [h] at hi
      by_cases h0 : b.1 = 0
      · exact Or.inr (Or.inl ⟨hi, h0⟩)
      · have hs := fun w => div_any (op2 mulF a b) b w hP64 hb
        rw [f_div sa sb ha hb h0 h] at hs
        exact Or.inl ⟨hi, h0, hs⟩
  have hDA : a.1 ≠ 0 → ∀ w, Calls Tryd.prog 13 #[rv a, rv a] w fun e w' => e = .returned (rv (1, 1)) ∧ Below w.heap.size w w' := fun h0 w => by
    have := div_any a a w ha ha
    rw [f_div_self sa ha h0] at this
    exact this
  obtain ⟨S, hS⟩ : ∃ S, op2 addF a b = S := ⟨_, rfl⟩
  obtain ⟨P, hP⟩ : ∃ P, op2 mulF a b = P := ⟨_, rfl⟩
  rw [hS] at hab hba hS64 hSC
  rw [hP] at hmab hmba hP64 hPC
  generalize negF a = N at *
  obtain ⟨S1, S2⟩ := S; obtain ⟨P1, P2⟩ := P; obtain ⟨N1, N2⟩ := N
  have z1 := eqR_self S1 S2
  have z2 := eqR_self P1 P2
  have z3 : eqR 0 1 0 1 = true := by decide
  obtain ⟨n, d⟩ := a; obtain ⟨p, q⟩ := b; obtain ⟨r, s⟩ := c
  have z4 := eqR_self n d
  have HZ := Lib.hid (And.intro ha (And.intro hb (And.intro hc (And.intro hS hP))))
  clear hS hP
  have HIA := Lib.hid hia; have HIB := Lib.hid hib; have HIC := Lib.hid hic
  have HAB := Lib.hid hab; have HBA := Lib.hid hba; have HMAB := Lib.hid hmab; have HMBA := Lib.hid hmba
  have HNA := Lib.hid hna; have HNN := Lib.hid hnn; have HAN := Lib.hid han; have HSC := Lib.hid hSC; have HPC := Lib.hid hPC; have HDA := Lib.hid hDA
  have z5 : eqR 1 1 1 1 = true := by decide
  clear hia hib hic hab hba hmab hmba hna hnn han hSC hPC hDA sa sb sc
  go_enter Tryd.func3, Tryd.ntmps3
  go_wp2_with fail
  ((with_reducible refine (HW.out _).mono ?_); rintro e w' ⟨rfl, hbw⟩)
  obtain ⟨m, rfl⟩ := grow_mk hbw
  clear hbw
  go_wp2_with fail
  ((with_reducible refine (HIA.out _).mono ?_); rintro e w' ⟨rfl, hbw⟩)
  obtain ⟨m1, rfl⟩ := grow_mk hbw
  clear hbw
  go_wp2_with fail
  ((with_reducible refine (HIB.out _).mono ?_); rintro e w' ⟨rfl, hbw⟩)
  obtain ⟨m2, rfl⟩ := grow_mk hbw
  clear hbw
  go_wp2_with fail
  ((with_reducible refine (HIC.out _).mono ?_); rintro e w' ⟨rfl, hbw⟩)
  obtain ⟨m3, rfl⟩ := grow_mk hbw
  clear hbw
  go_upto_region 5 with fail
  replace hB0 := hB0.grow (((m.trans m1).trans m2).trans m3)
  generalize grow _ (((m.trans m1).trans m2).trans m3) = wr at *
  have ca0 : wr.cell? ⟨w.heap.size, 0, none⟩ = some (.int .i64 n) := (hB0.pa).cell 0
  have fca0 := (hB0.pa).frozen 0
  have ca1 : wr.cell? ⟨w.heap.size, 1, none⟩ = some (.int .i64 d) := (hB0.pa).cell 1
  have fca1 := (hB0.pa).frozen 1
  have lca := (hB0.pa).lt
  have cb0 : wr.cell? ⟨w.heap.size + 1, 0, none⟩ = some (.int .i64 p) := (hB0.pb).cell 0
  have fcb0 := (hB0.pb).frozen 0
  have cb1 : wr.cell? ⟨w.heap.size + 1, 1, none⟩ = some (.int .i64 q) := (hB0.pb).cell 1
  have fcb1 := (hB0.pb).frozen 1
  have lcb := (hB0.pb).lt
  have cc0 : wr.cell? ⟨w.heap.size + 1 + 1, 0, none⟩ = some (.int .i64 r) := (hB0.pc).cell 0
  have fcc0 := (hB0.pc).frozen 0
  have cc1 : wr.cell? ⟨w.heap.size + 1 + 1, 1, none⟩ = some (.int .i64 s) := (hB0.pc).cell 1
  have fcc1 := (hB0.pc).frozen 1
  have lcc := (hB0.pc).lt
  have cg0 : wr.cell? ⟨0, 0, none⟩ = some (.int .i64 0) := (hB0.below.cell hnl).trans hn0
  have cg1 : wr.cell? ⟨0, 1, none⟩ = some (.int .i64 1) := (hB0.below.cell hnl).trans hn1
  have lg : 0 < wr.heap.size := by omega
  refine wp_region_loose 36 [Loose.rowL 2 47 23 2 #[.int .i64 n, .int .i64 d, .int .i64 p, .int .i64 q] (w.heap.size + 3), Loose.rowL 6 51 23 2 #[.int .i64 p, .int .i64 q, .int .i64 n, .int .i64 d] (w.heap.size + 3), Loose.rowL 12 57 23 2 #[.int .i64 n, .int .i64 d, .int .i64 p, .int .i64 q] (w.heap.size + 3), Loose.rowL 16 61 23 2 #[.int .i64 p, .int .i64 q, .int .i64 n, .int .i64 d] (w.heap.size + 3), Loose.rowL 24 69 23 2 #[.int .i64 n, .int .i64 d, .int .i64 N1, .int .i64 N2] (w.heap.size + 3), Loose.claim 3 48 (.agg #[.int .i64 S1, .int .i64 S2]), Loose.claim 7 52 (.agg #[.int .i64 S1, .int .i64 S2]), Loose.claim 13 58 (.agg #[.int .i64 P1, .int .i64 P2]), Loose.claim 17 62 (.agg #[.int .i64 P1, .int .i64 P2]), Loose.claim 23 68 (.agg #[.int .i64 N1, .int .i64 N2]), Loose.claim 25 70 (.agg #[.int .i64 0, .int .i64 1]), Loose.claim 31 76 (.agg #[.int .i64 N1, .int .i64 N2]), Loose.claim 32 77 (.agg #[.int .i64 n, .int .i64 d])] (by kernel_rfl) rfl (by kernel_rfl) (by kernel_rfl) (by kernel_rfl) (by kernel_rfl) ?_
  simp only [headL, hushL, List.find?, Loose.claim_i, Loose.cells_i, Loose.rowL_i, Loose.claim_hush, Loose.cells_hush, Loose.rowL_hush, Nat.reduceBEq, Nat.reduceAdd]
  repeat (go_big_quiet_step (fail))
  refine wpQuiet_nil ⟨fun V m5 => ?_, fun V m5 => ?_⟩
  · simp only [obs_cons, obs_nil, List.getElem?_cons_zero, List.getElem?_cons_succ, fill_nil, fill_claim, fill_cells, fill_rowL, Loose.claim_i, Loose.cells_i, Loose.rowL_i, Act.put, List.setIfInBounds_toArray, List.set_cons_zero, List.set_cons_succ]
    have hsz := grow_size m5
    have hsz3 : w.heap.size + 3 ≤ (grow wr m5).heap.size := by omega
    refine ⟨fun _ => ?_, fun _ => ?_, fun _ => ?_, fun _ => ?_, fun _ => ?_, fun hw => ?_, fun hw => ?_, fun hw => ?_, fun hw => ?_, fun hw => ?_, fun hw => ?_, fun hw => ?_, fun hw => ?_, trivial⟩
    · go_wp2_with fail
      exact post_rowL rfl hsz3
    · go_wp2_with fail
      exact post_rowL rfl hsz3
    · refine ⟨by simp [Region.wanted, yielded], ?_⟩
      go_wp2_with fail
      exact post_rowL rfl hsz3
    · refine ⟨by simp [Region.wanted, yielded], ?_⟩
      go_wp2_with fail
      exact post_rowL rfl hsz3
    · refine ⟨by simp [Region.wanted, yielded], ?_⟩
      go_wp2_with fail
      exact post_rowL rfl hsz3
    · obtain ⟨h3, _⟩ := hw
      obtain ⟨b, hv, hk, hB⟩ := h3 (by kernel_rfl)
      change V 2 = _ at hv
      rw [hv]
      clear hv h3
      go_wp2_with fail
      ((with_reducible refine (HAB.out _ _ _ hB).mono ?_); rintro e w' ⟨rfl, hbw⟩)
      obtain ⟨m6, rfl⟩ := grow_mk hbw
      clear hbw
      go_wp2_with fail
      exact post_claim rfl (grow_trans_below _ _)
    · obtain ⟨_, h3, _⟩ := hw
      obtain ⟨b, hv, hk, hB⟩ := h3 (by kernel_rfl)
      change V 6 = _ at hv
      rw [hv]
      clear hv h3
      go_wp2_with fail
      ((with_reducible refine (HBA.out _ _ _ hB).mono ?_); rintro e w' ⟨rfl, hbw⟩)
      obtain ⟨m6, rfl⟩ := grow_mk hbw
      clear hbw
      go_wp2_with fail
      exact post_claim rfl (grow_trans_below _ _)
    · refine ⟨by simp [Region.wanted, yielded], ?_⟩
      obtain ⟨_, _, h3, _⟩ := hw
      obtain ⟨b, hv, hk, hB⟩ := h3 (by kernel_rfl)
      change V 12 = _ at hv
      rw [hv]
      clear hv h3
      go_wp2_with fail
      ((with_reducible refine (HMAB.out _ _ _ hB).mono ?_); rintro e w' ⟨rfl, hbw⟩)
      obtain ⟨m6, rfl⟩ := grow_mk hbw
      clear hbw
      go_wp2_with fail
      exact post_claim rfl (grow_trans_below _ _)
    · refine ⟨by simp [Region.wanted, yielded], ?_⟩
      obtain ⟨_, _, _, h3, _⟩ := hw
      obtain ⟨b, hv, hk, hB⟩ := h3 (by kernel_rfl)
      change V 16 = _ at hv
      rw [hv]
      clear hv h3
      go_wp2_with fail
      ((with_reducible refine (HMBA.out _ _ _ hB).mono ?_); rintro e w' ⟨rfl, hbw⟩)
      obtain ⟨m6, rfl⟩ := grow_mk hbw
      clear hbw
      go_wp2_with fail
      exact post_claim rfl (grow_trans_below _ _)
    · refine ⟨by simp [Region.wanted, yielded], ?_⟩
      clear hw
      go_wp2_with fail
      ((with_reducible refine (HNA.out _).mono ?_); rintro e w' ⟨rfl, hbw⟩)
      obtain ⟨m6, rfl⟩ := grow_mk hbw
      clear hbw
      go_wp2_with fail
      exact post_claim rfl (grow_trans_below _ _)
    · refine ⟨by simp [Region.wanted, yielded], ?_⟩
      obtain ⟨_, _, _, _, h3, _⟩ := hw
      obtain ⟨b, hv, hk, hB⟩ := h3 (by kernel_rfl)
      change V 24 = _ at hv
      rw [hv]
      clear hv h3
      go_wp2_with fail
      ((with_reducible refine (HAN.out _ _ _ hB).mono ?_); rintro e w' ⟨rfl, hbw⟩)
      obtain ⟨m6, rfl⟩ := grow_mk hbw
      clear hbw
      go_wp2_with fail
      exact post_claim rfl (grow_trans_below _ _)
    · refine ⟨by simp [Region.wanted, yielded], ?_⟩
      clear hw
      go_wp2_with fail
      ((with_reducible refine (HNA.out _).mono ?_); rintro e w' ⟨rfl, hbw⟩)
      obtain ⟨m6, rfl⟩ := grow_mk hbw
      clear hbw
      go_wp2_with fail
      exact post_claim rfl (grow_trans_below _ _)
    · refine ⟨by simp [Region.wanted, yielded], ?_⟩
      clear hw
      go_wp2_with fail
      ((with_reducible refine (HNN.out _).mono ?_); rintro e w' ⟨rfl, hbw⟩)
      obtain ⟨m6, rfl⟩ := grow_mk hbw
      clear hbw
      go_wp2_with fail
      exact post_claim rfl (grow_trans_below _ _)
  · simp only [laws_nil, laws_claim, laws_cells, laws_rowL, dist_nil, dist_claim, dist_cells, dist_rowL, dist1_nil, dist1_claim, dist1_cells, dist1_rowL, dist1_cells_rowL, dist1_rowL_cells, List.drop_succ_cons, List.drop_zero, and_true, fill_nil, fill_claim, fill_cells, fill_rowL, Loose.claim_i, Loose.cells_i, Loose.rowL_i, Act.put, List.setIfInBounds_toArray, List.set_cons_zero, List.set_cons_succ]
    rintro _ _
    clear ca0 ca1 fca0 fca1 lca cb0 cb1 fcb0 fcb1 lcb cc0 cc1 fcc0 fcc1 lcc cg0 cg1 lg
    replace hB0 := hB0.grow m5
    generalize grow wr m5 = wq at *
    have ca0 : wq.cell? ⟨w.heap.size, 0, none⟩ = some (.int .i64 n) := (hB0.pa).cell 0
    have fca0 := (hB0.pa).frozen 0
    have ca1 : wq.cell? ⟨w.heap.size, 1, none⟩ = some (.int .i64 d) := (hB0.pa).cell 1
    have fca1 := (hB0.pa).frozen 1
    have lca := (hB0.pa).lt
    have cb0 : wq.cell? ⟨w.heap.size + 1, 0, none⟩ = some (.int .i64 p) := (hB0.pb).cell 0
    have fcb0 := (hB0.pb).frozen 0
    have cb1 : wq.cell? ⟨w.heap.size + 1, 1, none⟩ = some (.int .i64 q) := (hB0.pb).cell 1
    have fcb1 := (hB0.pb).frozen 1
    have lcb := (hB0.pb).lt
    have cc0 : wq.cell? ⟨w.heap.size + 1 + 1, 0, none⟩ = some (.int .i64 r) := (hB0.pc).cell 0
    have fcc0 := (hB0.pc).frozen 0
    have cc1 : wq.cell? ⟨w.heap.size + 1 + 1, 1, none⟩ = some (.int .i64 s) := (hB0.pc).cell 1
    have fcc1 := (hB0.pc).frozen 1
    have lcc := (hB0.pc).lt
    go_upto_region 7 with fail
    go_wp2_with fail
    ((with_reducible refine (HAB.out _ _ _ (Blk.new _ _ _)).mono ?_); rintro e w' ⟨rfl, hbw⟩)
    obtain ⟨m6, rfl⟩ := grow_mk hbw
    clear hbw
    go_upto_region 8 with fail
    clear ca0 ca1 fca0 fca1 lca cb0 cb1 fcb0 fcb1 lcb cc0 cc1 fcc0 fcc1 lcc
    replace hB0 := (hB0.alloc (.cells #[.int .i64 n, .int .i64 d, .int .i64 p, .int .i64 q] 23)).grow m6
    generalize grow _ m6 = ws at *
    have h7 := Blk.new ws 23 #[.int .i64 S1, .int .i64 S2]
    have l7 : w.heap.size + 3 ≤ ws.heap.size := by have := hB0.pc.lt; omega
    replace hB0 := hB0.alloc (.cells #[.int .i64 S1, .int .i64 S2] 23)
    generalize ws.heap.size = g7 at *
    generalize ws.alloc _ = wt at *
    have ca0 : wt.cell? ⟨w.heap.size, 0, none⟩ = some (.int .i64 n) := (hB0.pa).cell 0
    have fca0 := (hB0.pa).frozen 0
    have ca1 : wt.cell? ⟨w.heap.size, 1, none⟩ = some (.int .i64 d) := (hB0.pa).cell 1
    have fca1 := (hB0.pa).frozen 1
    have lca := (hB0.pa).lt
    have cb0 : wt.cell? ⟨w.heap.size + 1, 0, none⟩ = some (.int .i64 p) := (hB0.pb).cell 0
    have fcb0 := (hB0.pb).frozen 0
    have cb1 : wt.cell? ⟨w.heap.size + 1, 1, none⟩ = some (.int .i64 q) := (hB0.pb).cell 1
    have fcb1 := (hB0.pb).frozen 1
    have lcb := (hB0.pb).lt
    have cc0 : wt.cell? ⟨w.heap.size + 1 + 1, 0, none⟩ = some (.int .i64 r) := (hB0.pc).cell 0
    have fcc0 := (hB0.pc).frozen 0
    have cc1 : wt.cell? ⟨w.heap.size + 1 + 1, 1, none⟩ = some (.int .i64 s) := (hB0.pc).cell 1
    have fcc1 := (hB0.pc).frozen 1
    have lcc := (hB0.pc).lt
    go_wp2_with fail
    ((with_reducible refine (HMAB.out _ _ _ (Blk.new _ _ _)).mono ?_); rintro e w' ⟨rfl, hbw⟩)
    obtain ⟨m7, rfl⟩ := grow_mk hbw
    clear hbw
    go_upto_region 9 with fail
    clear ca0 ca1 fca0 fca1 lca cb0 cb1 fcb0 fcb1 lcb cc0 cc1 fcc0 fcc1 lcc
    replace hB0 := (hB0.alloc (.cells #[.int .i64 n, .int .i64 d, .int .i64 p, .int .i64 q] 23)).grow m7
    replace h7 := (h7.old (.cells #[.int .i64 n, .int .i64 d, .int .i64 p, .int .i64 q] 23)).grow m7
    generalize grow _ m7 = wu at *
    have h8 := Blk.new wu 23 #[.int .i64 P1, .int .i64 P2]
    have l8 : w.heap.size + 3 ≤ wu.heap.size := by have := hB0.pc.lt; omega
    replace hB0 := hB0.alloc (.cells #[.int .i64 P1, .int .i64 P2] 23)
    replace h7 := h7.old (.cells #[.int .i64 P1, .int .i64 P2] 23)
    generalize wu.heap.size = g8 at *
    generalize wu.alloc _ = wv at *
    have ca0 : wv.cell? ⟨w.heap.size, 0, none⟩ = some (.int .i64 n) := (hB0.pa).cell 0
    have fca0 := (hB0.pa).frozen 0
    have ca1 : wv.cell? ⟨w.heap.size, 1, none⟩ = some (.int .i64 d) := (hB0.pa).cell 1
    have fca1 := (hB0.pa).frozen 1
    have lca := (hB0.pa).lt
    have cb0 : wv.cell? ⟨w.heap.size + 1, 0, none⟩ = some (.int .i64 p) := (hB0.pb).cell 0
    have fcb0 := (hB0.pb).frozen 0
    have cb1 : wv.cell? ⟨w.heap.size + 1, 1, none⟩ = some (.int .i64 q) := (hB0.pb).cell 1
    have fcb1 := (hB0.pb).frozen 1
    have lcb := (hB0.pb).lt
    have cc0 : wv.cell? ⟨w.heap.size + 1 + 1, 0, none⟩ = some (.int .i64 r) := (hB0.pc).cell 0
    have fcc0 := (hB0.pc).frozen 0
    have cc1 : wv.cell? ⟨w.heap.size + 1 + 1, 1, none⟩ = some (.int .i64 s) := (hB0.pc).cell 1
    have fcc1 := (hB0.pc).frozen 1
    have lcc := (hB0.pc).lt
    have cs0 : wv.cell? ⟨g7, 0, none⟩ = some (.int .i64 S1) := (h7).cell 0
    have fcs0 := (h7).frozen 0
    have cs1 : wv.cell? ⟨g7, 1, none⟩ = some (.int .i64 S2) := (h7).cell 1
    have fcs1 := (h7).frozen 1
    have lcs := (h7).lt
    have cp0 : wv.cell? ⟨g8, 0, none⟩ = some (.int .i64 P1) := (h8).cell 0
    have fcp0 := (h8).frozen 0
    have cp1 : wv.cell? ⟨g8, 1, none⟩ = some (.int .i64 P2) := (h8).cell 1
    have fcp1 := (h8).frozen 1
    have lcp := (h8).lt
    go_cut [97] (fun s wx => s = .bool false ∧ ∃ k : Ext wv, wx = grow wv k)
    case first =>
      rcases HSC.out with ⟨hi, hs⟩ | hi
      · have HI := Lib.hid hi
        have HS := Lib.hid hs
        clear hi hs
        refine wp_region_grow (by kernel_rfl) (by kernel_rfl) ?_
        repeat (go_big_quiet_step ((first | (go_at_call 8; with_reducible exact calls_grow (HI.out _)) | (go_at_call 12; with_reducible exact calls_grow (HS.out _)))))
        refine wpQuiet_nil ?_
        rintro _ ⟨m8, rfl⟩
        go_wp2_with fail
        go_meet
        exact ⟨rfl, m8, rfl⟩
      · have HI := Lib.hid hi
        clear hi
        refine wp_region_grow (by kernel_rfl) (by kernel_rfl) ?_
        repeat (go_big_quiet_step ((first | (go_at_call 8; with_reducible exact calls_grow (HI.out _)))))
        refine wpQuiet_nil ?_
        rintro _ ⟨m8, rfl⟩
        go_wp2_with fail
        go_meet
        exact ⟨rfl, m8, rfl⟩
    case rest =>
      obtain ⟨rfl, m8, rfl⟩ := hcut
      go_upto_region 11 with fail
      go_cut [111] (fun s wx => s = .bool false ∧ ∃ k : Ext wv, wx = grow wv k)
      case first =>
        rcases HPC.out with ⟨hi, h0, hs⟩ | ⟨hi, h0⟩ | hi
        · have HI := Lib.hid hi
          have HS := Lib.hid hs
          have t1 : (p == 0) = false := by rw [beq_eq_false_iff_ne]; exact h0
          have t2 : (p != 0) = true := by rw [bne_iff_ne]; exact h0
          clear hi hs
          refine wp_region_grow (by kernel_rfl) (by kernel_rfl) ?_
          repeat (go_big_quiet_step ((first | (go_at_call 8; first | with_reducible exact calls_grow2 (HI.out _) | with_reducible exact calls_grow (HI.out _)) | (go_at_call 13; first | with_reducible exact calls_grow2 (HS.out _) | with_reducible exact calls_grow (HS.out _)))))
          refine wpQuiet_nil ?_
          rintro _ ⟨m9, rfl⟩
          go_wp2_with fail
          go_meet
          exact ⟨rfl, m8.trans m9, rfl⟩
        · have HI := Lib.hid hi
          have t1 : (p == 0) = true := by rw [h0]; rfl
          have t2 : (p != 0) = false := by rw [h0]; rfl
          clear hi
          refine wp_region_grow (by kernel_rfl) (by kernel_rfl) ?_
          repeat (go_big_quiet_step ((first | (go_at_call 8; first | with_reducible exact calls_grow2 (HI.out _) | with_reducible exact calls_grow (HI.out _)))))
          refine wpQuiet_nil ?_
          rintro _ ⟨m9, rfl⟩
          go_wp2_with fail
          go_meet
          exact ⟨rfl, m8.trans m9, rfl⟩
        · have HI := Lib.hid hi
          clear hi
          refine wp_region_grow (by kernel_rfl) (by kernel_rfl) ?_
          repeat (go_big_quiet_step ((first | (go_at_call 8; first | with_reducible exact calls_grow2 (HI.out _) | with_reducible exact calls_grow (HI.out _)))))
          refine wpQuiet_nil ?_
          rintro _ ⟨m9, rfl⟩
          go_wp2_with fail
          go_meet
          exact ⟨rfl, m8.trans m9, rfl⟩
      case rest =>
        obtain ⟨rfl, m9, rfl⟩ := hcut
        clear m8
        go_upto_region 13 with fail
        go_cut [121] (fun s wx => s = .bool false ∧ ∃ k : Ext wv, wx = grow wv k)
        case first =>
          by_cases h0 : n = 0
          · have t1 : (n == 0) = true := by rw [h0]; rfl
            have t2 : (n != 0) = false := by rw [h0]; rfl
            clear h0
            go_wp2_with fail
            go_meet
            exact ⟨rfl, m9, rfl⟩
          · have t1 : (n == 0) = false := by rw [beq_eq_false_iff_ne]; exact h0
            have t2 : (n != 0) = true := by rw [bne_iff_ne]; exact h0
            have HD := Lib.hid (HDA.out h0)
            clear h0
            go_wp2_with fail
            ((with_reducible refine (HD.out _).mono ?_); rintro e w' ⟨rfl, hbw⟩)
            obtain ⟨m10, rfl⟩ := grow_mk hbw
            clear hbw
            go_wp2_with fail
            go_meet
            exact ⟨rfl, m9.trans m10, rfl⟩
        case rest =>
          rename_i K2 hK2 K hK
          obtain ⟨rfl, m10, rfl⟩ := hcut
          refine hK _ _ ?_
          clear hK K
          go_cut [6] from 6 to 6 (fun s wx => s = .bool false ∧ wx = grow wv m10)
          case first =>
            go_wp2_with fail
            go_meet
            exact ⟨rfl, rfl⟩
          case rest =>
            obtain ⟨rfl, rfl⟩ := hcut
            refine hK2 _ _ ?_
            obtain ⟨ha, hb, hc, hS, hP⟩ := HZ.out
            have e := fun u0 u1 u2 u9 u10 u11 u12 u13 u14 u15 u16 u17 u18 u19 u20 u21 u22 u23 u24 u25 u26 u27 u28 u29 u30 u31 u32 u33 u34 u35 u36 u37 u38 u39 u40 u41 u42 u43 u44 u45 u46 u47 u48 u49 u50 u51 u52 u53 u54 u55 u56 u57 u58 u59 u60 u61 u62 u63 u64 u65 u66 u67 u68 u69 u70 u71 u72 u73 u74 u75 u76 u77 u78 u79 u80 u81 u82 u83 u84 u85 u86 u87 u88 u89 u90 u91 u92 u93 u94 u95 u96 u97 u98 u99 u100 u101 u102 u103 u104 u105 u106 u107 u108 u109 u110 u111 u112 u113 u114 u115 u116 u117 u118 u119 u120 u121 u122 u123 u124 u125 u126 u127 u128 u129 u130 u131 u132 u133 u134 u135 u136 u137 u138 u139 u140 u141 u142 u143 u144 u145 u146 u147 u148 u149 u150 u151 u152 u153 u154 u155 u156 u157 u158 u159 u160 u161 u162 u163 u164 u165 u166 u167 u168 u169 u170 u171 u172 u173 u174 u175 u176 u177 u178 u179 u180 u181 u182 u183 u184 u185 u186 u187 u188 u189 u190 u191 u192 u193 u194 u195 u196 u197 u198 u199 u200 u201 u202 u203 => field_end w (grow wv m10) g7 g8 (n, d) (p, q) (r, s) u0 u1 u2 u9 u10 u11 u12 u13 u14 u15 u16 u17 u18 u19 u20 u21 u22 u23 u24 u25 u26 u27 u28 u29 u30 u31 u32 u33 u34 u35 u36 u37 u38 u39 u40 u41 u42 u43 u44 u45 u46 u47 u48 u49 u50 u51 u52 u53 u54 u55 u56 u57 u58 u59 u60 u61 u62 u63 u64 u65 u66 u67 u68 u69 u70 u71 u72 u73 u74 u75 u76 u77 u78 u79 u80 u81 u82 u83 u84 u85 u86 u87 u88 u89 u90 u91 u92 u93 u94 u95 u96 u97 u98 u99 u100 u101 u102 u103 u104 u105 u106 u107 u108 u109 u110 u111 u112 u113 u114 u115 u116 u117 u118 u119 u120 u121 u122 u123 u124 u125 u126 u127 u128 u129 u130 u131 u132 u133 u134 u135 u136 u137 u138 u139 u140 u141 u142 u143 u144 u145 u146 u147 u148 u149 u150 u151 u152 u153 u154 u155 u156 u157 u158 u159 u160 u161 u162 u163 u164 u165 u166 u167 u168 u169 u170 u171 u172 u173 u174 u175 u176 u177 u178 u179 u180 u181 u182 u183 u184 u185 u186 u187 u188 u189 u190 u191 u192 u193 u194 u195 u196 u197 u198 u199 u200 u201 u202 u203 ha hb hc (hB0.grow m10)
            rw [hS, hP] at e
            exact e _ _ _ _ _ _ _ _ _ _ _ _ _ _ _ _ _ _ _ _ _ _ _ _ _ _ _ _ _ _ _ _ _ _ _ _ _ _ _ _ _ _ _ _ _ _ _ _ _ _ _ _ _ _ _ _ _ _ _ _ _ _ _ _ _ _ _ _ _ _ _ _ _ _ _ _ _ _ _ _ _ _ _ _ _ _ _ _ _ _ _ _ _ _ _ _ _ _ _ _ _ _ _ _ _ _ _ _ _ _ _ _ _ _ _ _ _ _ _ _ _ _ _ _ _ _ _ _ _ _ _ _ _ _ _ _ _ _ _ _ _ _ _ _ _ _ _ _ _ _ _ _ _ _ _ _ _ _ _ _ _ _ _ _ _ _ _ _ _ _ _ _ _ _ _ _ _ _ _ _ _ _ _ _ _ _ _ _ _ _ _ _ _ _ _ _ _ _ (h7.grow m10) (h8.grow m10)

end Go.Proofs.YtgjhaanpkfheeaaDoor
