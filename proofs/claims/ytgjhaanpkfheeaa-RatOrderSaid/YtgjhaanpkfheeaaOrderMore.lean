/- RatOrder's walk, where the first two stand so: 1. -/
import Derived.Test.YtgjhaanpkfheeaaOrderH
namespace Go.Proofs.Ytgjhaanpkfheeaa
set_option linter.unusedVariables false
set_option linter.unusedSimpArgs false
open Go.RowKit

set_option maxRecDepth 20000 in
set_option maxHeartbeats 4000000 in
theorem order_more (a b c : Rt) (w : World) (ha : Is64 a) (hb : Is64 b) (hc : Is64 c) (sa : sureB a = true) (sb : sureB b = true) (hx : cmpR a b = 1) :
    Calls Try.prog 16 #[rv a, rv b, rv c] w fun e w' => e = .returned (.bool true) ∧ Below w.heap.size w w' := by
  have HW := Lib.hid (fun w => awakeR_any w)
  have hia := fun w => lawis_any a w ha
  have hib := fun w => lawis_any b w hb
  have hic := fun w => lawis_any c w hc
  have hcab := fun w => cmp_any a b w ha hb
  have hB0 := Bo.start w 23 a b c
  rw [sa] at hia
  rw [sb] at hib
  rw [sa, sb, Bool.true_and, hx] at hcab
  have hcba := fun w => cmp_any b a w hb ha
  rw [sa, sb, Bool.true_and, cmpR_turn sa sb, hx, show -(1 : Int) = (-1) by decide] at hcba
  have hna := fun w => neg_any a w ha
  have hnb := fun w => neg_any b w hb
  have hcn := fun w => cmp_any (negF a) (negF b) w (is64_negF ha) (is64_negF hb)
  rw [cmpR_negs sa sb ha hb, (negF_sure sa ha).1, (negF_sure sb hb).1, Bool.true_and, cmpR_turn sa sb, hx, show -(1 : Int) = (-1) by decide] at hcn
  have hx0 := cmpR_zero sa sb
  rw [hx] at hx0
  have he : eqR a.1 a.2 b.1 b.2 = false := by
    refine eqR_ne fun h => ?_
    have := hx0.2 (Prod.ext h.1 h.2)
    omega
  have HLT := Lib.hid (fun sc => cmpR_trans (a := a) (b := b) (c := c) sa sb sc)
  have HLA := Lib.hid (fun sc => cmp_added (a := a) (b := b) (c := c) sa sb sc)
  rw [hx] at HLT HLA
  have HSA := Lib.hid sa; have HSB := Lib.hid sb
  generalize negF a = na at *
  generalize negF b = nb at *
  obtain ⟨na1, na2⟩ := na; obtain ⟨nb1, nb2⟩ := nb
  have HIA := Lib.hid hia
  have HIB := Lib.hid hib
  have HC := Lib.hid hcab
  have HD := Lib.hid hcba
  have HNA := Lib.hid hna
  have HNB := Lib.hid hnb
  have HCN := Lib.hid hcn
  clear hia hib hcab hcba hna hnb hcn hx0 sa sb hx
  cases sc : sureB c with
  | false =>
    rw [sc] at hic
    obtain ⟨n, d⟩ := a; obtain ⟨p, q⟩ := b; obtain ⟨r, s⟩ := c
    have HIC := Lib.hid hic
    clear hic HLT HLA HSA HSB sc
    go_enter Try.func16, Try.ntmps16
    go_wp2_with fail
    ((with_reducible refine (HW.out _).mono ?_); rintro e w' ⟨rfl, hbw⟩)
    obtain ⟨m, rfl⟩ := grow_mk hbw
    clear hbw
    go_wp2_with fail
    ((with_reducible refine (HC.out _).mono ?_); rintro e w' ⟨rfl, hbw⟩)
    obtain ⟨m1, rfl⟩ := grow_mk hbw
    clear hbw
    go_wp2_with fail
    ((with_reducible refine (HIA.out _).mono ?_); rintro e w' ⟨rfl, hbw⟩)
    obtain ⟨m2, rfl⟩ := grow_mk hbw
    clear hbw
    go_wp2_with fail
    ((with_reducible refine (HIB.out _).mono ?_); rintro e w' ⟨rfl, hbw⟩)
    obtain ⟨m3, rfl⟩ := grow_mk hbw
    clear hbw
    go_wp2_with fail
    ((with_reducible refine (HD.out _).mono ?_); rintro e w' ⟨rfl, hbw⟩)
    obtain ⟨m4, rfl⟩ := grow_mk hbw
    clear hbw
    go_wp2_with fail
    refine wp_region_grow (by kernel_rfl) (by kernel_rfl) ?_
    repeat (go_big_quiet_step ((first | (go_at_call 52; with_reducible exact calls_grow2 (HNA.out _)) | (go_at_call 52; with_reducible exact calls_grow2 (HNB.out _)) | (go_at_call 24; with_reducible exact calls_grow2 (HCN.out _)))))
    refine wpQuiet_nil ?_
    rintro _ ⟨m5, rfl⟩
    rw [grow_grow]
    replace hB0 := hB0.grow (((((m.trans m1).trans m2).trans m3).trans m4).trans m5)
    generalize grow _ (((((m.trans m1).trans m2).trans m3).trans m4).trans m5) = wr at *
    have ca0 : wr.cell? ⟨w.heap.size, 0, none⟩ = some (.int .i64 n) := (hB0.pa).cell 0
    have fca0 := (hB0.pa).frozen 0
    have ca1 : wr.cell? ⟨w.heap.size, 1, none⟩ = some (.int .i64 d) := (hB0.pa).cell 1
    have fca1 := (hB0.pa).frozen 1
    have lca := (hB0.pa).lt
    have cb0 : wr.cell? ⟨w.heap.size + 1, 0, none⟩ = some (.int .i64 p) := (hB0.pb).cell 0
    have fcb0 := (hB0.pb).frozen 0
    have cb1 : wr.cell? ⟨w.heap.size + 1, 1, none⟩ = some (.int .i64 q) := (hB0.pb).cell 1
    have fcb1 := (hB0.pb).frozen 1
    have lcb := (hB0.pb).lt
    have cc0 : wr.cell? ⟨w.heap.size + 1 + 1, 0, none⟩ = some (.int .i64 r) := (hB0.pc).cell 0
    have fcc0 := (hB0.pc).frozen 0
    have cc1 : wr.cell? ⟨w.heap.size + 1 + 1, 1, none⟩ = some (.int .i64 s) := (hB0.pc).cell 1
    have fcc1 := (hB0.pc).frozen 1
    have lcc := (hB0.pc).lt
    clear HC HIA HIB HD HNA HNB HCN HW
    go_wp2_with fail
    ((with_reducible refine (HIC.out _).mono ?_); rintro e w' ⟨rfl, hbw⟩)
    obtain ⟨m6, rfl⟩ := grow_mk hbw
    clear hbw
    go_wp2_with fail
    go_ret
    exact ⟨rfl, below_grow hB0.below _⟩
  | true =>
    rw [sc] at hic
    have hla := HLA.out sc
    have hlt := HLT.out sc
    have hp := fun W k t (h : Blk W k t #[.int .i64 a.1, .int .i64 a.2, .int .i64 c.1, .int .i64 c.2]) => add_any W (rats_blk h ha hc)
    have hq := fun W k t (h : Blk W k t #[.int .i64 b.1, .int .i64 b.2, .int .i64 c.1, .int .i64 c.2]) => add_any W (rats_blk h hb hc)
    have hm := fun W k t (h : Blk W k t #[.int .i64 a.1, .int .i64 a.2, .int .i64 b.1, .int .i64 b.2, .int .i64 c.1, .int .i64 c.2]) => least_any W (rats_blk3 h ha hb hc)
    have hM := fun W k t (h : Blk W k t #[.int .i64 a.1, .int .i64 a.2, .int .i64 b.1, .int .i64 b.2, .int .i64 c.1, .int .i64 c.2]) => most_any W (rats_blk3 h ha hb hc)
    have hm3 := eq_three (firstG_three (-1) HSA.out HSB.out sc)
    have hM3 := eq_three (firstG_three 1 HSA.out HSB.out sc)
    rw [foldR_two, show op2 addF a c = addF a c by unfold op2; rw [HSA.out, sc]; rfl] at hp
    rw [foldR_two, show op2 addF b c = addF b c by unfold op2; rw [HSB.out, sc]; rfl] at hq
    have hpq := fun w => cmp_any (addF a c) (addF b c) w (is64_addF _ _) (is64_addF _ _)
    have hbc := fun w => cmp_any b c w hb hc
    have hac := fun w => cmp_any a c w ha hc
    rw [HSB.out, sc, Bool.true_and] at hbc
    rw [HSA.out, sc, Bool.true_and] at hac
    have hu3 := cmpR_three b c
    generalize addF a c = P at *
    generalize addF b c = Q at *
    have hwx : (sureB P && sureB Q) = true → cmpR P Q = 1 := fun h => by
      rw [Bool.and_eq_true] at h; exact hla h.1 h.2
    generalize cmpR P Q = W0 at *
    generalize (sureB P && sureB Q) = both at *
    generalize cmpR b c = u at *
    generalize cmpR a c = v at *
    generalize firstG (-1) true (0, 0) [a, b, c] = lm at *
    generalize firstG 1 true (0, 0) [a, b, c] = gm at *
    obtain ⟨P1, P2⟩ := P; obtain ⟨Q1, Q2⟩ := Q
    obtain ⟨lm1, lm2⟩ := lm; obtain ⟨gm1, gm2⟩ := gm
    obtain ⟨n, d⟩ := a; obtain ⟨p, q⟩ := b; obtain ⟨r, s⟩ := c
    have HIC := Lib.hid hic
    have HP := Lib.hid hp; have HQ := Lib.hid hq; have HM := Lib.hid hm; have HMM := Lib.hid hM
    have HPQ := Lib.hid hpq; have HBC := Lib.hid hbc; have HAC := Lib.hid hac
    have HT := Lib.hid (And.intro hlt hu3); have HWX := Lib.hid hwx; have HM3 := Lib.hid hm3; have HMM3 := Lib.hid hM3
    clear hla hlt hp hq hm hM hm3 hM3 hpq hbc hac hu3 hwx HLA HLT sc HSA HSB hic
    go_enter Try.func16, Try.ntmps16
    go_wp2_with fail
    ((with_reducible refine (HW.out _).mono ?_); rintro e w' ⟨rfl, hbw⟩)
    obtain ⟨m, rfl⟩ := grow_mk hbw
    clear hbw
    go_wp2_with fail
    ((with_reducible refine (HC.out _).mono ?_); rintro e w' ⟨rfl, hbw⟩)
    obtain ⟨m1, rfl⟩ := grow_mk hbw
    clear hbw
    go_wp2_with fail
    ((with_reducible refine (HIA.out _).mono ?_); rintro e w' ⟨rfl, hbw⟩)
    obtain ⟨m2, rfl⟩ := grow_mk hbw
    clear hbw
    go_wp2_with fail
    ((with_reducible refine (HIB.out _).mono ?_); rintro e w' ⟨rfl, hbw⟩)
    obtain ⟨m3, rfl⟩ := grow_mk hbw
    clear hbw
    go_wp2_with fail
    ((with_reducible refine (HD.out _).mono ?_); rintro e w' ⟨rfl, hbw⟩)
    obtain ⟨m4, rfl⟩ := grow_mk hbw
    clear hbw
    go_wp2_with fail
    refine wp_region_grow (by kernel_rfl) (by kernel_rfl) ?_
    repeat (go_big_quiet_step ((first | (go_at_call 52; with_reducible exact calls_grow2 (HNA.out _)) | (go_at_call 52; with_reducible exact calls_grow2 (HNB.out _)) | (go_at_call 24; with_reducible exact calls_grow2 (HCN.out _)))))
    refine wpQuiet_nil ?_
    rintro _ ⟨m5, rfl⟩
    rw [grow_grow]
    replace hB0 := hB0.grow (((((m.trans m1).trans m2).trans m3).trans m4).trans m5)
    generalize grow _ (((((m.trans m1).trans m2).trans m3).trans m4).trans m5) = wr at *
    have ca0 : wr.cell? ⟨w.heap.size, 0, none⟩ = some (.int .i64 n) := (hB0.pa).cell 0
    have fca0 := (hB0.pa).frozen 0
    have ca1 : wr.cell? ⟨w.heap.size, 1, none⟩ = some (.int .i64 d) := (hB0.pa).cell 1
    have fca1 := (hB0.pa).frozen 1
    have lca := (hB0.pa).lt
    have cb0 : wr.cell? ⟨w.heap.size + 1, 0, none⟩ = some (.int .i64 p) := (hB0.pb).cell 0
    have fcb0 := (hB0.pb).frozen 0
    have cb1 : wr.cell? ⟨w.heap.size + 1, 1, none⟩ = some (.int .i64 q) := (hB0.pb).cell 1
    have fcb1 := (hB0.pb).frozen 1
    have lcb := (hB0.pb).lt
    have cc0 : wr.cell? ⟨w.heap.size + 1 + 1, 0, none⟩ = some (.int .i64 r) := (hB0.pc).cell 0
    have fcc0 := (hB0.pc).frozen 0
    have cc1 : wr.cell? ⟨w.heap.size + 1 + 1, 1, none⟩ = some (.int .i64 s) := (hB0.pc).cell 1
    have fcc1 := (hB0.pc).frozen 1
    have lcc := (hB0.pc).lt
    clear HC HIA HIB HD HNA HNB HCN HW
    go_wp2_with fail
    ((with_reducible refine (HIC.out _).mono ?_); rintro e w' ⟨rfl, hbw⟩)
    obtain ⟨m6, rfl⟩ := grow_mk hbw
    clear hbw
    go_upto_region 14 with fail
    clear ca0 ca1 fca0 fca1 lca cb0 cb1 fcb0 fcb1 lcb cc0 cc1 fcc0 fcc1 lcc
    replace hB0 := hB0.grow m6
    generalize grow wr m6 = wd at *
    have ca0 : wd.cell? ⟨w.heap.size, 0, none⟩ = some (.int .i64 n) := (hB0.pa).cell 0
    have fca0 := (hB0.pa).frozen 0
    have ca1 : wd.cell? ⟨w.heap.size, 1, none⟩ = some (.int .i64 d) := (hB0.pa).cell 1
    have fca1 := (hB0.pa).frozen 1
    have lca := (hB0.pa).lt
    have cb0 : wd.cell? ⟨w.heap.size + 1, 0, none⟩ = some (.int .i64 p) := (hB0.pb).cell 0
    have fcb0 := (hB0.pb).frozen 0
    have cb1 : wd.cell? ⟨w.heap.size + 1, 1, none⟩ = some (.int .i64 q) := (hB0.pb).cell 1
    have fcb1 := (hB0.pb).frozen 1
    have lcb := (hB0.pb).lt
    have cc0 : wd.cell? ⟨w.heap.size + 1 + 1, 0, none⟩ = some (.int .i64 r) := (hB0.pc).cell 0
    have fcc0 := (hB0.pc).frozen 0
    have cc1 : wd.cell? ⟨w.heap.size + 1 + 1, 1, none⟩ = some (.int .i64 s) := (hB0.pc).cell 1
    have fcc1 := (hB0.pc).frozen 1
    have lcc := (hB0.pc).lt
    refine wp_region_loose 10 [Loose.rowL 2 93 23 2 #[.int .i64 n, .int .i64 d, .int .i64 r, .int .i64 s] (w.heap.size + 3), Loose.claim 3 94 (.agg #[.int .i64 P1, .int .i64 P2]), Loose.rowL 6 97 23 2 #[.int .i64 p, .int .i64 q, .int .i64 r, .int .i64 s] (w.heap.size + 3), Loose.claim 7 98 (.agg #[.int .i64 Q1, .int .i64 Q2]), Loose.cells 8 13 23 #[.int .i64 0, .int .i64 0] (w.heap.size + 3), Loose.cells 9 14 23 #[.int .i64 0, .int .i64 0] (w.heap.size + 3)] (by kernel_rfl) rfl (by kernel_rfl) (by kernel_rfl) (by kernel_rfl) (by kernel_rfl) ?_
    simp only [headL, hushL, List.find?, Loose.claim_i, Loose.cells_i, Loose.rowL_i, Loose.claim_hush, Loose.cells_hush, Loose.rowL_hush, Nat.reduceBEq, Nat.reduceAdd]
    repeat (go_big_quiet_step (fail))
    refine wpQuiet_nil ⟨fun V m7 => ?_, fun V m7 => ?_⟩
    · simp only [obs_cons, obs_nil, List.getElem?_cons_zero, List.getElem?_cons_succ, fill_nil, fill_claim, fill_cells, fill_rowL, Loose.claim_i, Loose.cells_i, Loose.rowL_i, Act.put, List.setIfInBounds_toArray, List.set_cons_zero, List.set_cons_succ]
      have hsz := grow_size m7
      have hsz3 : w.heap.size + 3 ≤ (grow wd m7).heap.size := by omega
      refine ⟨fun _ => ?_, fun hw => ?_, fun _ => ?_, fun hw => ?_, fun _ => ?_, fun _ => ?_, trivial⟩
      · go_wp2_with fail
        exact post_rowL rfl hsz3
      · obtain ⟨h3, _⟩ := hw
        obtain ⟨b, hv, hk, hB⟩ := h3 (by kernel_rfl)
        change V 2 = _ at hv
        rw [hv]
        clear hv h3
        go_wp2_with fail
        ((with_reducible refine (HP.out _ _ _ hB).mono ?_); rintro e w' ⟨rfl, hbw⟩)
        obtain ⟨m4, rfl⟩ := grow_mk hbw
        clear hbw
        go_wp2_with fail
        exact post_claim rfl (grow_trans_below _ _)
      · go_wp2_with fail
        exact post_rowL rfl hsz3
      · obtain ⟨_, _, h3, _⟩ := hw
        obtain ⟨b, hv, hk, hB⟩ := h3 (by kernel_rfl)
        change V 6 = _ at hv
        rw [hv]
        clear hv h3
        go_wp2_with fail
        ((with_reducible refine (HQ.out _ _ _ hB).mono ?_); rintro e w' ⟨rfl, hbw⟩)
        obtain ⟨m4, rfl⟩ := grow_mk hbw
        clear hbw
        go_wp2_with fail
        exact post_claim rfl (grow_trans_below _ _)
      · go_wp2_with fail
        exact post_cells rfl hsz3
      · go_wp2_with fail
        exact post_cells rfl hsz3
    · simp only [laws_nil, laws_claim, laws_cells, laws_rowL, dist_nil, dist_claim, dist_cells, dist_rowL, dist1_nil, dist1_claim, dist1_cells, dist1_rowL, dist1_cells_rowL, dist1_rowL_cells, List.drop_succ_cons, List.drop_zero, and_true, fill_nil, fill_claim, fill_cells, fill_rowL, Loose.claim_i, Loose.cells_i, Loose.rowL_i, Act.put, List.setIfInBounds_toArray, List.set_cons_zero, List.set_cons_succ]
      rintro ⟨_, _, ⟨g, hg, hk, hX⟩, g', hg', hk', hY⟩ ⟨_, _, hne⟩
      replace hne := ownP_ne hne hg hg'
      rw [hg, hg']
      clear hg hg'
      clear ca0 ca1 fca0 fca1 lca cb0 cb1 fcb0 fcb1 lcb cc0 cc1 fcc0 fcc1 lcc
      replace hB0 := hB0.grow m7
      generalize grow wd m7 = we at *
      have cx0 : we.cell? ⟨g, 0, none⟩ = some (.int .i64 0) := (hX).cell 0
      have fcx0 := (hX).frozen 0
      have cx1 : we.cell? ⟨g, 1, none⟩ = some (.int .i64 0) := (hX).cell 1
      have fcx1 := (hX).frozen 1
      have lcx := (hX).lt
      have cy0 : we.cell? ⟨g', 0, none⟩ = some (.int .i64 0) := (hY).cell 0
      have fcy0 := (hY).frozen 0
      have cy1 : we.cell? ⟨g', 1, none⟩ = some (.int .i64 0) := (hY).cell 1
      have fcy1 := (hY).frozen 1
      have lcy := (hY).lt
      have hne' := Ne.symm hne
      go_upto_region 15 with fail
      have hB1 := two_puts hB0 hX hY hk hk' hne P1 P2 Q1 Q2
      clear cx0 cx1 cy0 cy1 fcx0 fcx1 fcy0 fcy1 lcx lcy hX hY hB0
      generalize ((((we.setCell ⟨g, 0, none⟩ (.int .i64 P1)).setCell ⟨g, 1, none⟩ (.int .i64 P2)).setCell ⟨g', 0, none⟩ (.int .i64 Q1)).setCell ⟨g', 1, none⟩ (.int .i64 Q2)) = wf at *
      obtain ⟨hB0, hX, hY⟩ := hB1
      have ca0 : wf.cell? ⟨w.heap.size, 0, none⟩ = some (.int .i64 n) := (hB0.pa).cell 0
      have fca0 := (hB0.pa).frozen 0
      have ca1 : wf.cell? ⟨w.heap.size, 1, none⟩ = some (.int .i64 d) := (hB0.pa).cell 1
      have fca1 := (hB0.pa).frozen 1
      have lca := (hB0.pa).lt
      have cb0 : wf.cell? ⟨w.heap.size + 1, 0, none⟩ = some (.int .i64 p) := (hB0.pb).cell 0
      have fcb0 := (hB0.pb).frozen 0
      have cb1 : wf.cell? ⟨w.heap.size + 1, 1, none⟩ = some (.int .i64 q) := (hB0.pb).cell 1
      have fcb1 := (hB0.pb).frozen 1
      have lcb := (hB0.pb).lt
      have cc0 : wf.cell? ⟨w.heap.size + 1 + 1, 0, none⟩ = some (.int .i64 r) := (hB0.pc).cell 0
      have fcc0 := (hB0.pc).frozen 0
      have cc1 : wf.cell? ⟨w.heap.size + 1 + 1, 1, none⟩ = some (.int .i64 s) := (hB0.pc).cell 1
      have fcc1 := (hB0.pc).frozen 1
      have lcc := (hB0.pc).lt
      have cx0 : wf.cell? ⟨g, 0, none⟩ = some (.int .i64 P1) := (hX).cell 0
      have fcx0 := (hX).frozen 0
      have cx1 : wf.cell? ⟨g, 1, none⟩ = some (.int .i64 P2) := (hX).cell 1
      have fcx1 := (hX).frozen 1
      have lcx := (hX).lt
      have cy0 : wf.cell? ⟨g', 0, none⟩ = some (.int .i64 Q1) := (hY).cell 0
      have fcy0 := (hY).frozen 0
      have cy1 : wf.cell? ⟨g', 1, none⟩ = some (.int .i64 Q2) := (hY).cell 1
      have fcy1 := (hY).frozen 1
      have lcy := (hY).lt
      go_wp2_with fail
      ((with_reducible refine (HPQ.out _).mono ?_); rintro e w' ⟨rfl, hbw⟩)
      obtain ⟨m8, rfl⟩ := grow_mk hbw
      clear hbw
      go_upto_region 16 with fail
      go_cut [110] (fun s wx => s = .bool false ∧ wx = grow wf m8)
      case first =>
        have hwx := HWX.out
        cases both
        · go_wp2_with fail
          go_meet
          exact ⟨rfl, rfl⟩
        · obtain rfl := hwx rfl
          go_wp2_with fail
          go_meet
          exact ⟨rfl, rfl⟩
      case rest =>
        obtain ⟨rfl, rfl⟩ := hcut
        go_wp2_with fail
        ((with_reducible refine (HBC.out _).mono ?_); rintro e w' ⟨rfl, hbw⟩)
        obtain ⟨m9, rfl⟩ := grow_mk hbw
        clear hbw
        go_wp2_with fail
        ((with_reducible refine (HAC.out _).mono ?_); rintro e w' ⟨rfl, hbw⟩)
        obtain ⟨m10, rfl⟩ := grow_mk hbw
        clear hbw
        go_upto_region 20 with fail
        clear ca0 ca1 fca0 fca1 lca cb0 cb1 fcb0 fcb1 lcb cc0 cc1 fcc0 fcc1 lcc
        clear cx0 cx1 cy0 cy1 fcx0 fcx1 fcy0 fcy1 lcx lcy hX hY
        replace hB0 := hB0.grow ((m8.trans m9).trans m10)
        generalize grow wf ((m8.trans m9).trans m10) = wg at *
        have ca0 : wg.cell? ⟨w.heap.size, 0, none⟩ = some (.int .i64 n) := (hB0.pa).cell 0
        have fca0 := (hB0.pa).frozen 0
        have ca1 : wg.cell? ⟨w.heap.size, 1, none⟩ = some (.int .i64 d) := (hB0.pa).cell 1
        have fca1 := (hB0.pa).frozen 1
        have lca := (hB0.pa).lt
        have cb0 : wg.cell? ⟨w.heap.size + 1, 0, none⟩ = some (.int .i64 p) := (hB0.pb).cell 0
        have fcb0 := (hB0.pb).frozen 0
        have cb1 : wg.cell? ⟨w.heap.size + 1, 1, none⟩ = some (.int .i64 q) := (hB0.pb).cell 1
        have fcb1 := (hB0.pb).frozen 1
        have lcb := (hB0.pb).lt
        have cc0 : wg.cell? ⟨w.heap.size + 1 + 1, 0, none⟩ = some (.int .i64 r) := (hB0.pc).cell 0
        have fcc0 := (hB0.pc).frozen 0
        have cc1 : wg.cell? ⟨w.heap.size + 1 + 1, 1, none⟩ = some (.int .i64 s) := (hB0.pc).cell 1
        have fcc1 := (hB0.pc).frozen 1
        have lcc := (hB0.pc).lt
        go_upto_region 22 with fail
        go_cut [150] (fun s wx => s = .bool false ∧ wx = wg)
        case first =>
          by_cases hu : u < 0
          · have t1 : decide (u < 0) = true := by simpa using hu
            go_wp2_with fail
            go_meet
            exact ⟨rfl, rfl⟩
          · have t1 : decide (u < 0) = false := by simpa using hu
            go_wp2_with fail
            go_meet
            exact ⟨rfl, rfl⟩
        case rest =>
          obtain ⟨rfl, rfl⟩ := hcut
          go_upto_region 24 with fail
          refine wp_region_loose 12 [Loose.rowL 3 154 23 3 #[.int .i64 n, .int .i64 d, .int .i64 p, .int .i64 q, .int .i64 r, .int .i64 s] (w.heap.size + 3), Loose.claim 4 155 (.agg #[.int .i64 lm1, .int .i64 lm2]), Loose.rowL 8 159 23 3 #[.int .i64 n, .int .i64 d, .int .i64 p, .int .i64 q, .int .i64 r, .int .i64 s] (w.heap.size + 3), Loose.claim 9 160 (.agg #[.int .i64 gm1, .int .i64 gm2]), Loose.cells 10 21 23 #[.int .i64 0, .int .i64 0] (w.heap.size + 3), Loose.cells 11 22 23 #[.int .i64 0, .int .i64 0] (w.heap.size + 3)] (by kernel_rfl) rfl (by kernel_rfl) (by kernel_rfl) (by kernel_rfl) (by kernel_rfl) ?_
          simp only [headL, hushL, List.find?, Loose.claim_i, Loose.cells_i, Loose.rowL_i, Loose.claim_hush, Loose.cells_hush, Loose.rowL_hush, Nat.reduceBEq, Nat.reduceAdd]
          repeat (go_big_quiet_step (fail))
          refine wpQuiet_nil ⟨fun V m11 => ?_, fun V m11 => ?_⟩
          · simp only [obs_cons, obs_nil, List.getElem?_cons_zero, List.getElem?_cons_succ, fill_nil, fill_claim, fill_cells, fill_rowL, Loose.claim_i, Loose.cells_i, Loose.rowL_i, Act.put, List.setIfInBounds_toArray, List.set_cons_zero, List.set_cons_succ]
            have hsz := grow_size m11
            have hsz3 : w.heap.size + 3 ≤ (grow wc m11).heap.size := by omega
            refine ⟨fun _ => ?_, fun hw => ?_, fun _ => ?_, fun hw => ?_, fun _ => ?_, fun _ => ?_, trivial⟩
            · go_wp2_with fail
              exact post_rowL rfl hsz3
            · obtain ⟨h3, _⟩ := hw
              obtain ⟨b, hv, hk, hB⟩ := h3 (by kernel_rfl)
              change V 3 = _ at hv
              rw [hv]
              clear hv h3
              go_wp2_with fail
              ((with_reducible refine (HM.out _ _ _ hB).mono ?_); rintro e w' ⟨rfl, hbw⟩)
              obtain ⟨m4, rfl⟩ := grow_mk hbw
              clear hbw
              go_wp2_with fail
              exact post_claim rfl (grow_trans_below _ _)
            · go_wp2_with fail
              exact post_rowL rfl hsz3
            · obtain ⟨_, _, h3, _⟩ := hw
              obtain ⟨b, hv, hk, hB⟩ := h3 (by kernel_rfl)
              change V 8 = _ at hv
              rw [hv]
              clear hv h3
              go_wp2_with fail
              ((with_reducible refine (HMM.out _ _ _ hB).mono ?_); rintro e w' ⟨rfl, hbw⟩)
              obtain ⟨m4, rfl⟩ := grow_mk hbw
              clear hbw
              go_wp2_with fail
              exact post_claim rfl (grow_trans_below _ _)
            · go_wp2_with fail
              exact post_cells rfl hsz3
            · go_wp2_with fail
              exact post_cells rfl hsz3
          · simp only [laws_nil, laws_claim, laws_cells, laws_rowL, dist_nil, dist_claim, dist_cells, dist_rowL, dist1_nil, dist1_claim, dist1_cells, dist1_rowL, dist1_cells_rowL, dist1_rowL_cells, List.drop_succ_cons, List.drop_zero, and_true, fill_nil, fill_claim, fill_cells, fill_rowL, Loose.claim_i, Loose.cells_i, Loose.rowL_i, Act.put, List.setIfInBounds_toArray, List.set_cons_zero, List.set_cons_succ]
            rintro ⟨_, _, ⟨g, hg, hk, hX⟩, g', hg', hk', hY⟩ ⟨_, _, hne⟩
            replace hne := ownP_ne hne hg hg'
            rw [hg, hg']
            clear hg hg'
            clear ca0 ca1 fca0 fca1 lca cb0 cb1 fcb0 fcb1 lcb cc0 cc1 fcc0 fcc1 lcc
            replace hB0 := hB0.grow m11
            generalize grow wc m11 = wh at *
            have cx0 : wh.cell? ⟨g, 0, none⟩ = some (.int .i64 0) := (hX).cell 0
            have fcx0 := (hX).frozen 0
            have cx1 : wh.cell? ⟨g, 1, none⟩ = some (.int .i64 0) := (hX).cell 1
            have fcx1 := (hX).frozen 1
            have lcx := (hX).lt
            have cy0 : wh.cell? ⟨g', 0, none⟩ = some (.int .i64 0) := (hY).cell 0
            have fcy0 := (hY).frozen 0
            have cy1 : wh.cell? ⟨g', 1, none⟩ = some (.int .i64 0) := (hY).cell 1
            have fcy1 := (hY).frozen 1
            have lcy := (hY).lt
            have hne' := Ne.symm hne
            go_upto_region 25 with fail
            have hB1 := two_puts hB0 hX hY hk hk' hne lm1 lm2 gm1 gm2
            clear cx0 cx1 cy0 cy1 fcx0 fcx1 fcy0 fcy1 lcx lcy hX hY hB0
            generalize ((((wh.setCell ⟨g, 0, none⟩ (.int .i64 lm1)).setCell ⟨g, 1, none⟩ (.int .i64 lm2)).setCell ⟨g', 0, none⟩ (.int .i64 gm1)).setCell ⟨g', 1, none⟩ (.int .i64 gm2)) = wi at *
            obtain ⟨hB0, hX, hY⟩ := hB1
            have ca0 : wi.cell? ⟨w.heap.size, 0, none⟩ = some (.int .i64 n) := (hB0.pa).cell 0
            have fca0 := (hB0.pa).frozen 0
            have ca1 : wi.cell? ⟨w.heap.size, 1, none⟩ = some (.int .i64 d) := (hB0.pa).cell 1
            have fca1 := (hB0.pa).frozen 1
            have lca := (hB0.pa).lt
            have cb0 : wi.cell? ⟨w.heap.size + 1, 0, none⟩ = some (.int .i64 p) := (hB0.pb).cell 0
            have fcb0 := (hB0.pb).frozen 0
            have cb1 : wi.cell? ⟨w.heap.size + 1, 1, none⟩ = some (.int .i64 q) := (hB0.pb).cell 1
            have fcb1 := (hB0.pb).frozen 1
            have lcb := (hB0.pb).lt
            have cc0 : wi.cell? ⟨w.heap.size + 1 + 1, 0, none⟩ = some (.int .i64 r) := (hB0.pc).cell 0
            have fcc0 := (hB0.pc).frozen 0
            have cc1 : wi.cell? ⟨w.heap.size + 1 + 1, 1, none⟩ = some (.int .i64 s) := (hB0.pc).cell 1
            have fcc1 := (hB0.pc).frozen 1
            have lcc := (hB0.pc).lt
            have cx0 : wi.cell? ⟨g, 0, none⟩ = some (.int .i64 lm1) := (hX).cell 0
            have fcx0 := (hX).frozen 0
            have cx1 : wi.cell? ⟨g, 1, none⟩ = some (.int .i64 lm2) := (hX).cell 1
            have fcx1 := (hX).frozen 1
            have lcx := (hX).lt
            have cy0 : wi.cell? ⟨g', 0, none⟩ = some (.int .i64 gm1) := (hY).cell 0
            have fcy0 := (hY).frozen 0
            have cy1 : wi.cell? ⟨g', 1, none⟩ = some (.int .i64 gm2) := (hY).cell 1
            have fcy1 := (hY).frozen 1
            have lcy := (hY).lt
            have hm3 := HM3.out; have hM3 := HMM3.out
            rcases hm3 with h1 | ⟨h1, h2⟩ | ⟨h1, h2, h3⟩
            all_goals rcases hM3 with j1 | ⟨j1, j2⟩ | ⟨j1, j2, j3⟩
            all_goals
              go_wp2_with fail
              go_ret
              exact ⟨rfl, hB0.below⟩

end Go.Proofs.Ytgjhaanpkfheeaa
