/- Of my texts: ShutP, ValsP. -/
import Derived.Test.YtgjhaanpkfheeaaM24
namespace Go.Proofs.Ytgjhaanpkfheeaa
set_option linter.unusedVariables false
set_option linter.unusedSimpArgs false
open Go.RowKit

theorem Blk.seven {w : World} {g : Nat} {t : TypeId} {a0 a1 a2 a3 a4 a5 a6 : Value} (h : Blk w g t #[a0, a1, a2, a3, a4, a5, a6]) (x0 x1 x2 x3 x4 x5 x6 : Value) :
    Blk (((((((w.setCell ⟨g, 0, none⟩ x0).setCell ⟨g, 1, none⟩ x1).setCell ⟨g, 2, none⟩ x2).setCell ⟨g, 3, none⟩ x3).setCell ⟨g, 4, none⟩ x4).setCell ⟨g, 5, none⟩ x5).setCell ⟨g, 6, none⟩ x6) g t #[x0, x1, x2, x3, x4, x5, x6] := by
  have h1 := ((((((h.put 0 x0).put 1 x1).put 2 x2).put 3 x3).put 4 x4).put 5 x5).put 6 x6
  simpa using h1
theorem below_puts (cs : List Value) (w : World) (g o : Nat) : Below g w (puts w g o cs) := by
  have h := grownBy_puts cs w g o
  exact ⟨h.os, h.tape, h.output, h.size, fun b hb => by
    by_cases h2 : b < w.heap.size
    · exact h.block b h2 (fun e => by have := Option.some.inj e; omega)
    · rw [Array.getElem?_eq_none (by rw [puts_size]; omega), Array.getElem?_eq_none (by omega)]⟩

set_option maxRecDepth 20000 in
set_option maxHeartbeats 8000000 in
theorem rshut_any (B gS gO K N : Nat) (R : List Fw) (p f : Fw) (gs cap : Nat) (oo : Option Addr) (oc : Nat) (w : World) (hN : R.length = N) (h : Sw B gS gO w (.slice (some ⟨gs, 0, none⟩) (N + 2) cap) (.slice oo (N + 1) oc) (R ++ [p] ++ [f]) K) (hB : B ≤ w.heap.size) (hN2 : N ≤ 1099511627776) (hK : (K + 1) * 72 ≤ 140737488355328) :
    Calls Try.prog 141 #[.pointer (some ⟨gS, 0, none⟩), .pointer (some ⟨gO, 0, none⟩)] w fun e w' => e = .returned (.tuple #[]) ∧
      (∃ v' kv, Sw B gS gO w' (.slice (some ⟨gs, 0, none⟩) (N + 1) cap) (.slice oo N oc) (R ++ [⟨p.t, v', p.xs ++ [(f.t, kv)]⟩]) (K + 1)) ∧ Below B w w' := by
  have hlen : (R ++ [p]).length = N + 1 := by rw [List.length_append, hN]; rfl
  have hrow := h.row
  have hops := h.ops
  rw [List.length_append, hlen, List.length_singleton] at hrow hops
  obtain ⟨hcap, hcm⟩ := owns_cap hrow
  unfold maxLen at hcm
  have hgl := owns_lt hrow
  obtain ⟨og, rfl⟩ : ∃ og, oo = some ⟨og, 0, none⟩ := by
    rcases hops.2 with ⟨h0, _⟩ | ⟨g, c, cur, hv, _⟩
    · injection h0 with _ h0 _; omega
    · injection hv with h1 _ _; exact ⟨g, h1⟩
  obtain ⟨hoc, hocm⟩ := owns_cap hops
  unfold maxLen at hocm
  have hol := owns_lt hops
  have hft : ((R ++ [p] ++ [f]).map Fw.t).tail[N]? = some f.t := by
    rw [List.map_append, List.tail_append_of_ne_nil (by simp), List.getElem?_append_right (by simp [hN])]
    simp [hN]
  have hcellF : ∀ j v, (tkcells f.t)[j]? = some v → w.cell? ⟨og, N * 6 + j, none⟩ = some v := fun j v hv => owns_cell hops (flat_at tkcells6 _ N f.t j v hft hv)
  have c6 : w.cell? ⟨gs, N + 1, none⟩ = some f.v := owns_cell hrow (by rw [List.map_append, List.getElem?_append_right (by simp [hN])]; simp [hN])
  obtain ⟨⟨fk, ft, ⟨fn, fd⟩, fi, fid⟩, fv, fxs⟩ := f
  have c0 := hcellF 0 _ rfl
  have c1 := hcellF 1 _ rfl
  have c2 := hcellF 2 _ rfl
  have c3 := hcellF 3 _ rfl
  have c4 := hcellF 4 _ rfl
  have c5 := hcellF 5 _ rfl
  rw [Nat.add_zero] at c0
  replace c6 : w.cell? ⟨gs, N + 1, none⟩ = some fv := c6
  obtain ⟨foa, fkl, fc, rfl⟩ : ∃ foa fkl fc, fv = .slice foa fkl fc := by
    obtain ⟨oa, c, g, hv, _⟩ := sl_of_own (h.kid _ (List.mem_append_right _ (List.mem_singleton.2 rfl)))
    exact ⟨_, _, _, hv⟩
  have hbS := h.bs
  have hbO := h.bo
  have cs0 : w.cell? ⟨gS, 0, none⟩ = some (.slice (some ⟨gs, 0, none⟩) (N + 2) cap) := (hbS).cell 0
  have fcs0 := (hbS).frozen 0
  have lcs := (hbS).lt
  have co0 : w.cell? ⟨gO, 0, none⟩ = some (.slice (some ⟨og, 0, none⟩) (N + 1) oc) := (hbO).cell 0
  have fco0 := (hbO).frozen 0
  have lco := (hbO).lt
  have hbw : gS < w.heap.size := hbS.lt
  have hbw2 : gO < w.heap.size := hbO.lt
  clear hcellF hrow hops hbS hbO hft
  obtain ⟨n, hn⟩ : ∃ n, N + 1 = n := ⟨_, rfl⟩
  obtain ⟨M, hM⟩ : ∃ M, N + 2 = M := ⟨_, rfl⟩
  have iM : (M : Int) - 1 = (n : Int) := by omega
  have iN : (n : Int) - 1 = (N : Int) := by omega
  have HSW := Lib.hid h
  have HM := Lib.hid (And.intro hN (And.intro hn (And.intro hM hlen)))
  clear h
  rw [hn] at c6 hoc co0 hlen ⊢
  rw [hM] at hcap cs0
  clear hN hn hM hlen
  have hncap : n ≤ cap := by omega
  have hNoc : N ≤ oc := by omega
  have iN0 : (0 : Int) ≤ (N : Int) := Int.natCast_nonneg _
  have iNn : (N : Int) < (n : Int) := by omega
  have iNn2 : N < n := by omega
  have inM : (n : Int) < (M : Int) := by omega
  have inM2 : n < M := by omega
  have in0 : (0 : Int) ≤ (n : Int) := Int.natCast_nonneg _
  have iwr : IntKind.i64.wrap (N : Int) = (N : Int) := by rw [IntKind.wrap_i64]; omega
  go_enter Try.func141, Try.ntmps141
  go_upto_region 1 with fail
  refine wp_region_loose 11 [Loose.claim 9 16 (.agg #[.int .i64 fk, .string ⟨ft.toArray⟩, .int .i64 fn, .int .i64 fd, .bool fi, .bool fid, .slice foa fkl fc]), Loose.cells 10 3 74 #[.int .i64 0, .string ⟨#[]⟩, .int .i64 0, .int .i64 0, .bool false, .bool false, .slice none 0 0] w.heap.size] (by kernel_rfl) rfl (by kernel_rfl) (by kernel_rfl) (by kernel_rfl) (by kernel_rfl) ?_
  simp only [headL, hushL, List.find?, Loose.claim_i, Loose.cells_i, Loose.rowL_i, Loose.claim_hush, Loose.cells_hush, Loose.rowL_hush, Nat.reduceBEq, Nat.reduceAdd]
  repeat (go_big_quiet_step (fail))
  refine wpQuiet_nil ⟨fun V m1 => ?_, fun V m1 => ?_⟩
  · simp only [obs_cons, obs_nil, List.getElem?_cons_zero, List.getElem?_cons_succ, fill_nil, fill_claim, fill_cells, fill_rowL, Loose.claim_i, Loose.cells_i, Loose.rowL_i, Act.put, List.setIfInBounds_toArray, List.set_cons_zero, List.set_cons_succ]
    refine ⟨fun _ => ?_, fun _ => ?_, trivial⟩
    · go_wp2_with fail
      exact post_claim rfl (Below.refl _ _)
    · have hsz := grow_size m1
      go_wp2_with fail
      exact post_cells rfl hsz
  · simp only [laws_nil, laws_claim, laws_cells, laws_rowL, dist_nil, dist_claim, dist_cells, dist_rowL, dist1_nil, dist1_claim, dist1_cells, dist1_rowL, dist1_cells_rowL, dist1_rowL_cells, List.drop_succ_cons, List.drop_zero, and_true, fill_nil, fill_claim, fill_cells, fill_rowL, Loose.claim_i, Loose.cells_i, Loose.rowL_i, Act.put, List.setIfInBounds_toArray, List.set_cons_zero, List.set_cons_succ]
    rintro ⟨g4, hg4, hk4, hbx0⟩ _
    rw [hg4]
    clear hg4
    have HGM := Lib.hid (And.intro (grow_below m1) hk4)
    have hgs4 : gs ≠ g4 := by omega
    have hgS4 : gS ≠ g4 := by omega
    have hgO4 : gO ≠ g4 := by omega
    have HNE := Lib.hid (show ∀ x ∈ R ++ [p], x.v.ownBlock ≠ some g4 from fun x hx e => by
      have := (HSW.out.kid x (List.mem_append_left _ hx)).lt g4 e
      omega)
    have HBX0 := Lib.hid hbx0
    clear hbx0 hk4 c0 c1 c2 c3 c4 c5 c6 cs0 fcs0 lcs co0 fco0 lco
    generalize grow w m1 = wd at *
    have hbz := HBX0.out
    have cz0 : wd.cell? ⟨g4, 0, none⟩ = some (.int .i64 0) := (hbz).cell 0
    have fcz0 := (hbz).frozen 0
    have cz1 : wd.cell? ⟨g4, 1, none⟩ = some (.string ⟨#[]⟩) := (hbz).cell 1
    have fcz1 := (hbz).frozen 1
    have cz2 : wd.cell? ⟨g4, 2, none⟩ = some (.int .i64 0) := (hbz).cell 2
    have fcz2 := (hbz).frozen 2
    have cz3 : wd.cell? ⟨g4, 3, none⟩ = some (.int .i64 0) := (hbz).cell 3
    have fcz3 := (hbz).frozen 3
    have cz4 : wd.cell? ⟨g4, 4, none⟩ = some (.bool false) := (hbz).cell 4
    have fcz4 := (hbz).frozen 4
    have cz5 : wd.cell? ⟨g4, 5, none⟩ = some (.bool false) := (hbz).cell 5
    have fcz5 := (hbz).frozen 5
    have cz6 : wd.cell? ⟨g4, 6, none⟩ = some (.slice none 0 0) := (hbz).cell 6
    have fcz6 := (hbz).frozen 6
    have lcz := (hbz).lt
    clear hbz
    go_upto_region 2 with fail
    have HBX := Lib.hid (Blk.seven HBX0.out (.int .i64 fk) (.string ⟨ft.toArray⟩) (.int .i64 fn) (.int .i64 fd) (.bool fi) (.bool fid) (.slice foa fkl fc))
    have hp7 := below_puts [.int .i64 fk, .string ⟨ft.toArray⟩, .int .i64 fn, .int .i64 fd, .bool fi, .bool fid, .slice foa fkl fc] wd g4 0
    simp only [puts] at hp7
    have hb1 : Below w.heap.size w _ := HGM.out.1.trans (Below.mono hp7 HGM.out.2)
    have HB1 := Lib.hid hb1
    clear hp7 hb1 HBX0 cz0 cz1 cz2 cz3 cz4 cz5 cz6 fcz0 fcz1 fcz2 fcz3 fcz4 fcz5 fcz6 lcz HGM
    simp only [Nat.zero_add, Nat.reduceAdd] at HB1
    generalize World.setCell _ _ _ = w1 at *
    have HS1 := Lib.hid (HSW.out.below HB1.out)
    have HD := Lib.hid (Below.drew (Below.refl w1.heap.size w1))
    have HS2 := Lib.hid (HS1.out.below HD.out)
    have hbS := HS2.out.bs
    have hbO := HS2.out.bo
    have hSO : gS ≠ gO := fun e => by
      have h1 := hbS
      have h2 := hbO
      unfold Blk at h1 h2
      rw [e, h2] at h1
      injection h1 with h1
      injection h1 with _ h1 _
      exact absurd h1 (by decide)
    have hOS : gO ≠ gS := Ne.symm hSO
    rw [HM.out.2.1] at hbO
    rw [HM.out.2.2.1] at hbS
    go_cut [] (fun wx => wx = (w1.drew.setCell ⟨gS, 0, none⟩ (.slice (some ⟨gs, 0, none⟩) n cap)).setCell ⟨gO, 0, none⟩ (.slice (some ⟨og, 0, none⟩) N oc))
    case first =>
      refine wp_region_any (by kernel_rfl) ?_
      change wpAny _ _ _ _ _ _ _ w1.drew
      generalize w1.drew = wd1 at *
      have cs0 : wd1.cell? ⟨gS, 0, none⟩ = some (.slice (some ⟨gs, 0, none⟩) M cap) := (hbS).cell 0
      have fcs0 := (hbS).frozen 0
      have lcs := (hbS).lt
      have co0 : wd1.cell? ⟨gO, 0, none⟩ = some (.slice (some ⟨og, 0, none⟩) n oc) := (hbO).cell 0
      have fco0 := (hbO).frozen 0
      have lco := (hbO).lt
      refine wpAny_take (i := 1) (v := ?vv1) rfl (by kernel_rfl) (by kernel_rfl) (by kernel_rfl) (fun _ _ _ h => h) (Or.inl ⟨by rfl, ?hy1⟩) ?_
      case hy1 => (intro w; go_simp; try with_reducible rfl)
      change wpAny _ _ _ _ _ _ (Act.put _ (some 18) _) _
      try simp only [Act.put, List.setIfInBounds_toArray, List.set_cons_zero, List.set_cons_succ]
      refine wpAny_take (i := 4) (v := ?vv4) rfl (by kernel_rfl) (by kernel_rfl) (by kernel_rfl) (fun _ _ _ h => h) (Or.inl ⟨by rfl, ?hy4⟩) ?_
      case hy4 => (intro w; go_simp; try with_reducible rfl)
      change wpAny _ _ _ _ _ _ (Act.put _ (some 21) _) _
      try simp only [Act.put, List.setIfInBounds_toArray, List.set_cons_zero, List.set_cons_succ]
      refine wpAny_take (i := 5) (v := ?vv5) rfl (by kernel_rfl) (by kernel_rfl) (by kernel_rfl) (fun _ _ _ h => h) (Or.inl ⟨by rfl, ?hy5⟩) ?_
      case hy5 => (intro w; go_simp; try with_reducible rfl)
      change wpAny _ _ _ _ _ _ (Act.put _ (some 22) _) _
      try simp only [Act.put, List.setIfInBounds_toArray, List.set_cons_zero, List.set_cons_succ]
      refine wpAny_ready (rs := [0, 3]) (by kernel_rfl) (by simp) ?_
      refine AllReady.cons rfl (fun K hK => ?_) (AllReady.cons rfl (fun K hK => ?_) AllReady.nil)
      · go_simp
        refine hK _ _ ?_
        clear hK K
        refine wpAny_take (i := 2) (v := ?vv2) rfl (by kernel_rfl) (by kernel_rfl) (by kernel_rfl) (fun _ _ _ h => h) (Or.inl ⟨by rfl, ?hy2⟩) ?_
        case hy2 => (intro w; go_simp; try with_reducible rfl)
        change wpAny _ _ _ _ _ _ (Act.put _ (some 19) _) _
        try simp only [Act.put, List.setIfInBounds_toArray, List.set_cons_zero, List.set_cons_succ]
        refine wpAny_ready (rs := [3, 7]) (by kernel_rfl) (by simp) ?_
        refine AllReady.cons rfl (fun K hK => ?_) (AllReady.cons rfl (fun K hK => ?_) AllReady.nil)
        · go_simp
          refine hK _ _ ?_
          clear hK K
          refine wpAny_take (i := 6) (v := ?vv6) rfl (by kernel_rfl) (by kernel_rfl) (by kernel_rfl) (fun _ _ _ h => h) (Or.inl ⟨by rfl, ?hy6⟩) ?_
          case hy6 => (intro w; go_simp; try with_reducible rfl)
          change wpAny _ _ _ _ _ _ (Act.put _ (some 23) _) _
          try simp only [Act.put, List.setIfInBounds_toArray, List.set_cons_zero, List.set_cons_succ]
          refine wpAny_ready (rs := [7]) (by kernel_rfl) (by simp) ?_
          refine AllReady.cons rfl (fun K hK => ?_) AllReady.nil
          go_simp
          refine hK _ _ ?_
          clear hK K
          refine wpAny_ready (rs := [8]) (by kernel_rfl) (by simp) ?_
          refine AllReady.cons rfl (fun K hK => ?_) AllReady.nil
          go_simp
          refine hK _ _ ?_
          clear hK K
          refine wpAny_done (by kernel_rfl) ?_ _
          go_wp2_with fail
          go_meet
          rfl
        · go_simp
          refine hK _ _ ?_
          clear hK K
          refine wpAny_ready (rs := [3]) (by kernel_rfl) (by simp) ?_
          refine AllReady.cons rfl (fun K hK => ?_) AllReady.nil
          go_simp
          refine hK _ _ ?_
          clear hK K
          refine wpAny_take (i := 6) (v := ?vv6) rfl (by kernel_rfl) (by kernel_rfl) (by kernel_rfl) (fun _ _ _ h => h) (Or.inl ⟨by rfl, ?hy6⟩) ?_
          case hy6 => (intro w; go_simp; try with_reducible rfl)
          change wpAny _ _ _ _ _ _ (Act.put _ (some 23) _) _
          try simp only [Act.put, List.setIfInBounds_toArray, List.set_cons_zero, List.set_cons_succ]
          refine wpAny_ready (rs := [8]) (by kernel_rfl) (by simp) ?_
          refine AllReady.cons rfl (fun K hK => ?_) AllReady.nil
          go_simp
          refine hK _ _ ?_
          clear hK K
          refine wpAny_done (by kernel_rfl) ?_ _
          go_wp2_with fail
          go_meet
          rfl
      · go_simp
        refine hK _ _ ?_
        clear hK K
        refine wpAny_take (i := 6) (v := ?vv6) rfl (by kernel_rfl) (by kernel_rfl) (by kernel_rfl) (fun _ _ _ h => h) (Or.inl ⟨by rfl, ?hy6⟩) ?_
        case hy6 => (intro w; go_simp; try with_reducible rfl)
        change wpAny _ _ _ _ _ _ (Act.put _ (some 23) _) _
        try simp only [Act.put, List.setIfInBounds_toArray, List.set_cons_zero, List.set_cons_succ]
        refine wpAny_ready (rs := [0]) (by kernel_rfl) (by simp) ?_
        refine AllReady.cons rfl (fun K hK => ?_) AllReady.nil
        go_simp
        refine hK _ _ ?_
        clear hK K
        refine wpAny_take (i := 2) (v := ?vv2) rfl (by kernel_rfl) (by kernel_rfl) (by kernel_rfl) (fun _ _ _ h => h) (Or.inl ⟨by rfl, ?hy2⟩) ?_
        case hy2 => (intro w; go_simp; try with_reducible rfl)
        change wpAny _ _ _ _ _ _ (Act.put _ (some 19) _) _
        try simp only [Act.put, List.setIfInBounds_toArray, List.set_cons_zero, List.set_cons_succ]
        refine wpAny_ready (rs := [7]) (by kernel_rfl) (by simp) ?_
        refine AllReady.cons rfl (fun K hK => ?_) AllReady.nil
        go_simp
        refine hK _ _ ?_
        clear hK K
        refine wpAny_ready (rs := [8]) (by kernel_rfl) (by simp) ?_
        refine AllReady.cons rfl (fun K hK => ?_) AllReady.nil
        go_simp
        refine hK _ _ ?_
        clear hK K
        refine wpAny_done (by kernel_rfl) ?_ _
        go_wp2_with fail
        go_meet
        rfl
    case rest =>
      have hpop := HS2.out
      rw [← HM.out.1] at hpop
      replace hpop := Sw.pop hpop
      rw [HM.out.1, HM.out.2.1, ← hcut] at hpop
      have hbc : Below B w wc := by
        rw [hcut]
        exact (((Below.mono HB1.out hB).trans (Below.mono HD.out (Nat.le_trans hB HB1.out.size))).setCell HS2.out.hs _).setCell HS2.out.ho _
      have hbx : Blk wc g4 74 #[.int .i64 fk, .string ⟨ft.toArray⟩, .int .i64 fn, .int .i64 fd, .bool fi, .bool fid, .slice foa fkl fc] := by
        rw [hcut]
        exact ((HBX.out.below HD.out HBX.out.lt).far (p := ⟨gS, 0, none⟩) (Ne.symm hgS4) _).far (p := ⟨gO, 0, none⟩) (Ne.symm hgO4) _
      have HPOP := Lib.hid hpop
      have HBC := Lib.hid hbc
      have HBXC := Lib.hid hbx
      clear hpop hbc hbx hcut HS2 HD HBX HB1 HS1 HSW hbS hbO hSO hOS
      generalize wc = wp at *
      go_upto_region 3 with fail
      go_cut [25] (fun s wx => ∃ b : Bool, s = .bool b ∧ Hid (Below wp.heap.size wp wx))
      case first =>
        go_region
        all_goals
          go_wp2_with fail
          go_meet
          case rel => exact ⟨_, rfl, Lib.hid (Below.drew (below_box _ _))⟩
      case rest =>
        obtain ⟨bb, rfl, hbw⟩ := hcut
        have hp2 := HPOP.out.below hbw.out
        have hb2 := Lib.hid (HBC.out.trans (Below.mono hbw.out (Nat.le_trans hB HBC.out.size)))
        have hbx := HBXC.out.below hbw.out HBXC.out.lt
        clear HPOP HBXC HBC
        have hsz := hb2.out.size
        have hrowP := hp2.row
        have hl1 : (R ++ [p]).length = n := by rw [HM.out.2.2.2, HM.out.2.1]
        rw [hl1] at hrowP
        have hpm : p ∈ R ++ [p] := List.mem_append_right _ (List.mem_singleton.2 rfl)
        have hkP := hp2.kid p hpm
        have hlP := hp2.len p hpm
        have hcP : wc.cell? ⟨gs, N, none⟩ = some p.v := owns_cell hrowP (by rw [List.map_append, List.getElem?_append_right (by rw [List.length_map, HM.out.1]; exact Nat.le_refl _), List.length_map, HM.out.1, Nat.sub_self]; rfl)
        have hfP : wc.frozen? ⟨gs, N, none⟩ = false := owns_frozen hrowP _
        have hgsl := (owns_lt hrowP).2
        have hne4 : p.v.ownBlock ≠ some g4 := HNE.out p hpm
        have hneP : p.v.ownBlock ≠ some gs := fun e => owns_apart hkP hrowP (by decide) e rfl
        have hbS := hp2.bs
        have hneS : p.v.ownBlock ≠ some gS := blk_apart hbS hkP (by decide)
        have hpvl := hkP.lt
        obtain ⟨pt, pv, pxs⟩ := p
        simp only at hkP hlP hcP hne4 hneP hneS hpvl ⊢
        obtain ⟨poa, pc, pg, rfl, _, _⟩ := sl_of_own hkP
        obtain ⟨k, hk⟩ : ∃ k, pxs.length = k := ⟨_, rfl⟩
        rw [hk] at hkP hlP hcP hne4 hneP hneS hpvl
        have HKP := Lib.hid hkP
        have HK := Lib.hid hk
        have HP2 := Lib.hid hp2
        have HVL := Lib.hid hpvl
        have hBw : B ≤ wc.heap.size := Nat.le_trans hB hsz
        have cb0 : wc.cell? ⟨g4, 0, none⟩ = some (.int .i64 fk) := (hbx).cell 0
        have fcb0 := (hbx).frozen 0
        have cb1 : wc.cell? ⟨g4, 1, none⟩ = some (.string ⟨ft.toArray⟩) := (hbx).cell 1
        have fcb1 := (hbx).frozen 1
        have cb2 : wc.cell? ⟨g4, 2, none⟩ = some (.int .i64 fn) := (hbx).cell 2
        have fcb2 := (hbx).frozen 2
        have cb3 : wc.cell? ⟨g4, 3, none⟩ = some (.int .i64 fd) := (hbx).cell 3
        have fcb3 := (hbx).frozen 3
        have cb4 : wc.cell? ⟨g4, 4, none⟩ = some (.bool fi) := (hbx).cell 4
        have fcb4 := (hbx).frozen 4
        have cb5 : wc.cell? ⟨g4, 5, none⟩ = some (.bool fid) := (hbx).cell 5
        have fcb5 := (hbx).frozen 5
        have cb6 : wc.cell? ⟨g4, 6, none⟩ = some (.slice foa fkl fc) := (hbx).cell 6
        have fcb6 := (hbx).frozen 6
        have lcb := (hbx).lt
        have cs0 : wc.cell? ⟨gS, 0, none⟩ = some (.slice (some ⟨gs, 0, none⟩) n cap) := (hbS).cell 0
        have fcs0 := (hbS).frozen 0
        have lcs := (hbS).lt
        clear hp2 hrowP hpm hkP hk hbx hbw hbS hpvl hl1 hsz
        cases bb with
        | true =>
          go_wp2_with fail
          refine wp_region_phase 11 [Loose.claim 9 35 (.int .i64 k), Loose.rowL 10 36 74 1 zero7 wc.heap.size] (by kernel_rfl) (by kernel_rfl) (by kernel_rfl) rfl (by kernel_rfl) (by kernel_rfl) (by kernel_rfl) (by kernel_rfl) ?_
          simp only [List.take_succ_cons, List.take_zero, headL, hushL, List.find?, Loose.claim_i, Loose.cells_i, Loose.rowL_i, Loose.claim_hush, Loose.cells_hush, Loose.rowL_hush, Loose.val_i, Loose.rowS_i, Loose.val_hush, Loose.rowS_hush, Loose.fw_i, Loose.fw_hush, Loose.rw_i, Loose.rw_hush, Nat.reduceBEq, Nat.reduceAdd]
          repeat (go_big_quiet_step (fail))
          refine wpQuiet_nil ⟨fun V m => ?_, fun V m => ?_⟩
          · simp only [List.take_succ_cons, List.take_zero, obs_cons, obs_nil, List.getElem?_cons_zero, List.getElem?_cons_succ, fill_nil, fill_claim, fill_cells, fill_rowL, Loose.claim_i, Loose.cells_i, Loose.rowL_i, Act.put, List.setIfInBounds_toArray, List.set_cons_zero, List.set_cons_succ, fill_val, fill_rowS, Loose.val_i, Loose.rowS_i, fill_fw, Loose.fw_i, fill_rw, Loose.rw_i]
            refine ⟨fun _ => ?_, fun _ => ?_, trivial⟩
            · go_wp2_with fail
              exact post_claim rfl (Below.refl _ _)
            · go_wp2_with fail
              exact post_rowL rfl (grow_size m)
          · simp only [laws_nil, laws_claim, laws_cells, laws_rowL, laws_val, laws_rowS, laws_fw, laws_rw, dist_nil, dist_claim, dist_cells, dist_rowL, dist_val, dist_rowS, dist_fw, dist_rw, dist1_nil, dist1_claim, dist1_cells, dist1_rowL, dist1_val, dist1_fw, dist1_cells_rowL, dist1_rowL_cells, List.length_cons, List.length_nil, Nat.reduceAdd, Nat.reduceSub, and_true, fill_nil, fill_claim, fill_cells, fill_rowL, Loose.claim_i, Loose.cells_i, Loose.rowL_i, Act.put, List.setIfInBounds_toArray, List.set_cons_zero, List.set_cons_succ, fill_val, fill_rowS, Loose.val_i, Loose.rowS_i, fill_fw, Loose.fw_i, fill_rw, Loose.rw_i]
            rintro ⟨gb, hv10, hgb, hbk⟩ _
            rw [hv10]
            clear hv10
            have hgm := grow_below m
            generalize grow wc m = wd at *
            refine wpAny_ready (rs := [11]) (by kernel_rfl) (by simp) ?_
            refine AllReady.cons rfl (fun K hK => ?_) AllReady.nil
            refine step_add elVal (by rfl) _ _ (by rfl) (by rfl) (owns_belowW HKP.out hgm) (by have := hgm.size; omega) hbk 1 (by rfl) (by rfl) (by simp [zero7, Value.oneCell']) (by omega) (by omega) ?_
            intro gg cap3 w3 ho3 hg3 hat
            refine hK _ _ ?_
            clear hK K
            change wpAny _ _ _ _ _ _ (Act.put _ (some 37) _) _
            try simp only [Act.put, List.setIfInBounds_toArray, List.set_cons_zero, List.set_cons_succ]
            refine wpAny_take (i := 12) (v := ?vv12) rfl (by kernel_rfl) (by kernel_rfl) (by kernel_rfl) (fun _ _ _ h => h) (Or.inl ⟨by rfl, ?hy12⟩) ?_
            case hy12 => (intro w; go_simp; try with_reducible rfl)
            change wpAny _ _ _ _ _ _ (Act.put _ (some 38) _) _
            try simp only [Act.put, List.setIfInBounds_toArray, List.set_cons_zero, List.set_cons_succ]
            have q1 : w3.cell? ⟨gs, N, none⟩ = some (.slice poa k pc) := (hg3.cell_far _ (by have := hgm.size; simp; omega) (Ne.symm hneP)).trans ((hgm.cell hgsl).trans hcP)
            have q2 : w3.frozen? ⟨gs, N, none⟩ = false := (hg3.frozen_far _ (by have := hgm.size; simp; omega) (Ne.symm hneP)).trans ((hgm.frozen hgsl).trans hfP)
            refine wpAny_ready (rs := [13]) (by kernel_rfl) (by simp) ?_
            refine AllReady.cons rfl (fun K hK => ?_) AllReady.nil
            go_simp
            refine hK _ _ ?_
            clear hK K
            refine wpAny_done (by kernel_rfl) ?_ _
            have hp3 := HP2.out
            rw [← HM.out.2.1] at hp3
            have hg3' : wd.grownBy w3 (Value.slice poa k pc).ownBlock := hg3
            have hrow3 : w3.ownsRow B 61 1 (.slice (some ⟨gs, 0, none⟩) (N + 1) cap) (N + 1) (R.map Fw.v ++ [.slice poa k pc]) := by
              have h1 := hp3.row
              rw [List.length_append, List.length_singleton, HM.out.1, List.map_append] at h1
              simp only [List.map_cons, List.map_nil, HK.out] at h1
              exact (owns_belowW h1 hgm).kept hg3 (.inr fun e => hneP e.symm)
            have hrow4 : (w3.setCell ⟨gs, N, none⟩ (.slice (some ⟨gg, 0, none⟩) (k + 1) cap3)).ownsRow B 61 1 (.slice (some ⟨gs, 0, none⟩) (N + 1) cap) (N + 1) (R.map Fw.v ++ [.slice (some ⟨gg, 0, none⟩) (k + 1) cap3]) := by
              have h2 := owns_setAt hrow3 (i := N) (by omega) (.slice (some ⟨gg, 0, none⟩) (k + 1) cap3)
              rw [List.set_append, if_neg (by rw [List.length_map, HM.out.1]; omega), List.length_map, HM.out.1, Nat.sub_self] at h2
              exact h2
            have hgne : gg ≠ gs := fun e => owns_apart ho3 hrow3 (by decide) rfl (by rw [e]; rfl)
            have ho4 := ho3.kept (grownBy_set w3 ⟨gs, N, none⟩ (.slice (some ⟨gg, 0, none⟩) (k + 1) cap3)) (.inr fun e => hgne (Option.some.inj e))
            have hln : (pxs.flatMap fwcells).length = k * 7 := by rw [flat_length fwcells_length, HK.out]
            have z : ∀ j u, zero7.toList[j]? = some u → (w3.setCell ⟨gs, N, none⟩ (.slice (some ⟨gg, 0, none⟩) (k + 1) cap3)).cell? ⟨gg, k * 7 + j, none⟩ = some u := fun j u hu => owns_cell ho4 (by rw [List.getElem?_append_right (by omega), hln, show k * 7 + j - k * 7 = j by omega]; exact hu)
            have z0 := z 0 _ rfl
            have z1 := z 1 _ rfl
            have z2 := z 2 _ rfl
            have z3 := z 3 _ rfl
            have z4 := z 4 _ rfl
            have z5 := z 5 _ rfl
            have z6 := z 6 _ rfl
            simp only [Nat.add_zero] at z0
            have y0 := owns_frozen ho4 (k * 7)
            have y1 := owns_frozen ho4 (k * 7 + 1)
            have y2 := owns_frozen ho4 (k * 7 + 2)
            have y3 := owns_frozen ho4 (k * 7 + 3)
            have y4 := owns_frozen ho4 (k * 7 + 4)
            have y5 := owns_frozen ho4 (k * 7 + 5)
            have y6 := owns_frozen ho4 (k * 7 + 6)
            have hcap3 := owns_cap ho3
            have H4 := Lib.hid (grownBy_set w3 ⟨gs, N, none⟩ (.slice (some ⟨gg, 0, none⟩) (k + 1) cap3))
            have H3 := Lib.hid (And.intro hgm (And.intro hg3' (And.intro hat (And.intro ho4 (And.intro hrow4 hgne)))))
            clear z hg3' hp3 hrow3 hrow4 ho3 ho4 hg3 hgm hat q1 q2 cb0 cb1 cb2 cb3 cb4 cb5 cb6 fcb0 fcb1 fcb2 fcb3 fcb4 fcb5 fcb6 lcb hcP hfP hbk cs0 fcs0 lcs
            generalize w3.setCell _ _ = w4 at *
            go_wp2_with fail
            refine bodyPost_end (results_none rfl _ _ _) rfl ?_
            obtain ⟨hN, hn, _, _⟩ := HM.out
            subst hn
            obtain ⟨hgm, hg3, hat, ho4, hrow, hgne⟩ := H3.out
            have hk := HK.out
            subst hk
            have hG := grownBy_puts [.int .i64 fk, .string ⟨ft.toArray⟩, .int .i64 fn, .int .i64 fd, .bool fi, .bool fid, .slice foa fkl fc] w4 gg (pxs.length * 7)
            have hkid := owns_puts [.int .i64 fk, .string ⟨ft.toArray⟩, .int .i64 fn, .int .i64 fd, .bool fi, .bool fid, .slice foa fkl fc] (pxs.length * 7) w4 _ _ ho4 (flat_length fwcells_length _) rfl (by simp; omega)
            have hput := Sw.put (k := (⟨fk, ft, (fn, fd), fi, fid⟩, .slice foa fkl fc)) HP2.out hN hgm hg3 hat rfl hBw H4.out hG (Or.inl rfl) (Or.inr rfl) (hrow.kept hG (.inr fun e => hgne (Option.some.inj e).symm)) hkid
            exact ⟨rfl, ⟨_, _, hput.1⟩, hb2.out.trans hput.2⟩
        | false =>
          go_wp2_with fail
          go_region_law
            ((refine step_add elVal (by rfl) _ _ (by rfl) (by rfl) ((HKP.out.alloc _).drew) (by have := hBw; simp; omega) (B := wc.heap.size) (cs := #[.int .i64 fk, .string ⟨ft.toArray⟩, .int .i64 fn, .int .i64 fd, .bool fi, .bool fid, .slice foa fkl fc]) (tc := 74) (Blk.new wc _ _) 1 (by rfl) (by rfl) (by simp [Value.oneCell']) (by omega) (by omega) ?_; intro gg cap3 w3 ho3 hg3 hat; have q1 : w3.cell? ⟨gs, N, none⟩ = some (.slice poa k pc) := (hg3.cell_far _ (by simp; omega) (Ne.symm hneP)).trans ((Below.cell (B := wc.heap.size) (Below.drew (below_box wc _)) hgsl).trans hcP); have q2 : w3.frozen? ⟨gs, N, none⟩ = false := (hg3.frozen_far _ (by simp; omega) (Ne.symm hneP)).trans ((Below.frozen (B := wc.heap.size) (Below.drew (below_box wc _)) hgsl).trans hfP); have qS : w3.cell? ⟨gS, 0, none⟩ = some (.slice (some ⟨gs, 0, none⟩) n cap) := (hg3.cell_far _ (by simp; omega) (Ne.symm hneS)).trans ((Below.cell (B := wc.heap.size) (Below.drew (below_box wc _)) lcs).trans cs0)))
          all_goals
            have hgm : Below wc.heap.size wc (wc.alloc (.cells #[.int .i64 fk, .string ⟨ft.toArray⟩, .int .i64 fn, .int .i64 fd, .bool fi, .bool fid, .slice foa fkl fc] 74)).drew := Below.drew (below_box wc _)
            obtain ⟨hN, hn, _, _⟩ := HM.out
            subst hn
            have hk := HK.out
            subst hk
            have hrow3 : w3.ownsRow B 61 1 (.slice (some ⟨gs, 0, none⟩) (N + 1) cap) (N + 1) (R.map Fw.v ++ [.slice poa pxs.length pc]) := by
              have h1 := HP2.out.row
              rw [List.length_append, List.length_singleton, hN, List.map_append] at h1
              exact (owns_belowW h1 hgm).kept hg3 (.inr fun e => hneP e.symm)
            have hrow4 : (w3.setCell ⟨gs, N, none⟩ (.slice (some ⟨gg, 0, none⟩) (pxs.length + 1) cap3)).ownsRow B 61 1 (.slice (some ⟨gs, 0, none⟩) (N + 1) cap) (N + 1) (R.map Fw.v ++ [.slice (some ⟨gg, 0, none⟩) (pxs.length + 1) cap3]) := by
              have h2 := owns_setAt hrow3 (i := N) (by omega) (.slice (some ⟨gg, 0, none⟩) (pxs.length + 1) cap3)
              rw [List.set_append, if_neg (by rw [List.length_map, hN]; omega), List.length_map, hN, Nat.sub_self] at h2
              exact h2
            have hgne : gg ≠ gs := fun e => owns_apart ho3 hrow3 (by decide) rfl (by rw [e]; rfl)
            have hG := grownBy_set w3 ⟨gs, N, none⟩ (.slice (some ⟨gg, 0, none⟩) (pxs.length + 1) cap3)
            have ho4 := ho3.kept hG (.inr fun e => hgne (Option.some.inj e))
            have HPUT := Lib.hid (Sw.put (k := (⟨fk, ft, (fn, fd), fi, fid⟩, .slice foa fkl fc)) HP2.out hN hgm hg3 hat rfl hBw hG (grownBy_refl _ (some gg)) (Or.inl rfl) (Or.inr rfl) hrow4 ho4)
            clear hrow3 hrow4 ho3 ho4 hG hg3 hat hgm q1 q2 cb0 cb1 cb2 cb3 cb4 cb5 cb6 fcb0 fcb1 fcb2 fcb3 fcb4 fcb5 fcb6 lcb hcP hfP cs0 fcs0 lcs
            generalize w3.setCell _ _ = w4 at *
            go_wp2_with fail
            refine bodyPost_end (results_none rfl _ _ _) rfl ?_
            exact ⟨rfl, ⟨_, _, HPUT.out.1⟩, hb2.out.trans HPUT.out.2⟩

end Go.Proofs.Ytgjhaanpkfheeaa

namespace Go.Proofs.Ytgjhaanpkfheeaa
set_option linter.unusedVariables false
set_option linter.unusedSimpArgs false
open Go.RowKit

theorem elSt : El 139 61 (.slice none 0 0) 1 24 := ⟨Try.underlying139, by kernel_rfl, rfl, by decide⟩
theorem stepT_cons (t0 : Tk) (k0 : List Tk) (r : List (Tk × List Tk)) (t : Tk) : stepT ((t0, k0) :: r) t = if r ≠ [] ∧ t.kind = closeF t0.kind then shutT ((t0, k0) :: r) else if closeF t.kind ≠ 0 then (t, []) :: (t0, k0) :: r else (t0, k0 ++ [t]) :: r := rfl
theorem shutT_sk (R : List Fw) (p f : Fw) : shutT (skT (R ++ [p] ++ [f])) = (p.t, p.xs.map (·.1) ++ [f.t]) :: skT R := by
  rw [skT_top, skT_top]
  rfl
theorem rcloser_same (k : Int) (w : World) : Calls Try.prog 124 #[.int .i64 k] w fun e w' => e = .returned (.int .i64 (closeF k)) ∧ w = w' := (rcloser_any k w).mono fun _ _ ⟨h1, h2⟩ => ⟨h1, h2.symm⟩

section
variable {B gS gO K : Nat} {w w3 w5 : World} {vs ov vs' ov' : Value} {S : List Fw}
/-- behind the append to the openers -/
theorem Sw.mid (h : Sw B gS gO w vs ov S K) (g1 : w.grownBy w3 ov.ownBlock) (ov' : Value) (hops : ∀ k, ov'.ownBlock = some k → ov.ownBlock = some k ∨ w.heap.size ≤ k) : Blk (w3.setCell ⟨gO, 0, none⟩ ov') gS 139 #[vs] ∧ Blk (w3.setCell ⟨gO, 0, none⟩ ov') gO 136 #[ov'] ∧
    (w3.setCell ⟨gO, 0, none⟩ ov').ownsRow B 61 1 vs S.length (S.map Fw.v) ∧ ∀ x ∈ S, (w3.setCell ⟨gO, 0, none⟩ ov').ownsRow B 74 7 x.v x.xs.length (x.xs.flatMap fwcells) := by
  have hSO : gS ≠ gO := fun e => by
    have h1 := h.bs
    have h2 := h.bo
    unfold Blk at h1 h2
    rw [e, h2] at h1
    injection h1 with h1
    injection h1 with _ h1 _
    exact absurd h1 (by decide)
  have kp : ∀ {e : TypeId} {size : Nat} {v : Value} {n : Nat} {xs : List Value}, e ≠ 72 → e ≠ 136 → w.ownsRow B e size v n xs → (w3.setCell ⟨gO, 0, none⟩ ov').ownsRow B e size v n xs := fun {e size v n xs} he he2 ho => by
    refine (ho.kept g1 ?_).kept (grownBy_set w3 ⟨gO, 0, none⟩ ov') (.inr (blk_apart h.bo ho he2))
    cases hv : v.ownBlock with
    | none => exact .inl rfl
    | some k => exact .inr (fun e2 => owns_apart ho h.ops he hv e2.symm)
  refine ⟨?_, ?_, kp (by decide) (by decide) h.row, fun x hx => kp (by decide) (by decide) (h.kid x hx)⟩
  · exact (h.bs.keeps g1 (blk_apart h.bs h.ops (by decide))).keeps (grownBy_set w3 ⟨gO, 0, none⟩ ov') (fun e => hSO (Option.some.inj e).symm)
  · have := (h.bo.keeps g1 (blk_apart h.bo h.ops (by decide))).put 0 ov'
    exact this
/-- one more is opened -/
theorem Sw.open {t : Tk} {gg : Nat} (h : Sw B gS gO w vs ov S K) (hS : S ≠ []) (hB : B ≤ w.heap.size) (g1 : w.grownBy w3 ov.ownBlock) (hov : ∀ k, ov'.ownBlock = some k → ov.ownBlock = some k ∨ w.heap.size ≤ k)
    (hops : w3.ownsRow B 72 6 ov' S.length ((S.map Fw.t).tail.flatMap tkcells ++ tkcells t))
    (g2 : (w3.setCell ⟨gO, 0, none⟩ ov').grownBy w5 vs.ownBlock) (hv' : vs'.ownBlock = some gg) (hat : vs.ownBlock = some gg ∨ (w3.setCell ⟨gO, 0, none⟩ ov').heap.size ≤ gg)
    (hrow : w5.ownsRow B 61 1 vs' (S.length + 1) (S.map Fw.v ++ [.slice none 0 0])) :
    Sw B gS gO (w5.setCell ⟨gS, 0, none⟩ vs') vs' ov' (S ++ [⟨t, .slice none 0 0, []⟩]) K ∧ Below B w (w5.setCell ⟨gS, 0, none⟩ vs') := by
  obtain ⟨m1, m2, m3, m4⟩ := h.mid g1 ov' hov
  have hSO : gO ≠ gS := fun e => by
    have h1 := h.bs
    have h2 := h.bo
    unfold Blk at h1 h2
    rw [← e, h2] at h1
    injection h1 with h1
    injection h1 with _ h1 _
    exact absurd h1 (by decide)
  have hops4 := hops.kept (grownBy_set w3 ⟨gO, 0, none⟩ ov') (.inr (by
    have hb3 : Blk w3 gO 136 #[ov] := h.bo.keeps g1 (blk_apart h.bo h.ops (by decide))
    exact blk_apart hb3 hops (by decide)))
  have gS5 := grownBy_set w5 ⟨gS, 0, none⟩ vs'
  have hb5 : Blk w5 gS 139 #[vs] := m1.keeps g2 (blk_apart m1 m3 (by decide))
  have kp : ∀ {e : TypeId} {size : Nat} {v : Value} {n : Nat} {xs : List Value}, e ≠ 61 → e ≠ 139 → (w3.setCell ⟨gO, 0, none⟩ ov').ownsRow B e size v n xs → (w5.setCell ⟨gS, 0, none⟩ vs').ownsRow B e size v n xs := fun {e size v n xs} he he2 ho => by
    refine (ho.kept g2 ?_).kept gS5 (.inr (blk_apart m1 ho he2))
    cases hv : v.ownBlock with
    | none => exact .inl rfl
    | some k => exact .inr (fun e2 => owns_apart ho m3 he hv e2.symm)
  have hl : (S ++ [(⟨t, .slice none 0 0, []⟩ : Fw)]).length = S.length + 1 := by simp
  refine ⟨⟨?_, ?_, h.hs, h.ho, ?_, ?_, fun x hx => ?_, ?_, fun x hx => ?_⟩, ?_⟩
  · have := hb5.put 0 vs'
    exact this
  · exact (m2.keeps g2 (blk_apart m2 m3 (by decide))).keeps gS5 (fun e => hSO (Option.some.inj e).symm)
  · rw [hl, List.map_append]
    exact hrow.kept gS5 (.inr (blk_apart hb5 hrow (by decide)))
  · rw [hl, Nat.add_sub_cancel, List.map_append, List.tail_append_of_ne_nil (by simpa using hS), List.flatMap_append]
    exact kp (by decide) (by decide) hops4
  · rcases List.mem_append.1 hx with hx | hx
    · exact kp (by decide) (by decide) (m4 x hx)
    · obtain rfl := List.mem_singleton.1 hx
      exact World.ownsRow_nil _ _ _ _
  · refine List.pairwise_append.2 ⟨h.apart, List.pairwise_singleton _ _, fun x hx y hy g hg => ?_⟩
    obtain rfl := List.mem_singleton.1 hy
    intro e; cases e
  · rcases List.mem_append.1 hx with hx | hx
    · exact h.len x hx
    · obtain rfl := List.mem_singleton.1 hx
      exact Nat.zero_le _
  · have b1 : Below B w w3 := Below.grown (Below.refl B w) g1 hB (fun k hk => (h.ops.lt k hk).1)
    have b2 : Below B w (w3.setCell ⟨gO, 0, none⟩ ov') := b1.setCell h.ho _
    have b3 : Below B w w5 := b2.trans (Below.grown (Below.refl B _) g2 (Nat.le_trans hB b2.size) (fun k hk => (m3.lt k hk).1))
    exact b3.setCell h.hs _
end
end Go.Proofs.Ytgjhaanpkfheeaa
