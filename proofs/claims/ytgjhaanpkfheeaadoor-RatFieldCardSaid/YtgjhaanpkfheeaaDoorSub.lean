/- The fraction turned; the difference of two. -/
import Derived.Test.YtgjhaanpkfheeaaDoorAddP
import Derived.Test.YtgjhaanpkfheeaaDoorRAdd
import Derived.Test.YtgjhaanpkfheeaaDoorLooseB
namespace Go.Proofs.YtgjhaanpkfheeaaDoor
set_option linter.unusedVariables false
set_option linter.unusedSimpArgs false
open Go.RowKit

/-- the fraction turned; the difference -/
def negF (a : Rt) : Rt := if sureB a then (-a.1, a.2) else (0, 0)
def subF (a b : Rt) : Rt := foldR addF (0, 1) [a, negF b]

theorem is64_negF {a : Rt} (h : Is64 a) : Is64 (negF a) := by
  unfold negF
  by_cases hs : sureB a = true
  · rw [if_pos hs]
    have := sureB_num hs
    obtain ⟨b1, b2, b3, b4⟩ := h
    exact ⟨by show _ ≤ -a.1; omega, by show -a.1 ≤ _; omega, b3, b4⟩
  · rw [if_neg hs]; exact is64_over

theorem foldR_two (op : Rt → Rt → Rt) (nn a b : Rt) : foldR op nn [a, b] = op2 op a b := by
  show (if sureB a then (if sureB a && sureB b then op a b else (0, 0)) else (0, 0)) = op2 op a b
  unfold op2
  cases sureB a with
  | false => rfl
  | true => rfl
theorem sureB_neg {b : Rt} (h : sureB b = false) : negF b = (0, 0) := by unfold negF; rw [h]; rfl

theorem subF_op2 (a b : Rt) : subF a b = (if sureB b then op2 addF a (negF b) else (0, 0)) := by
  unfold subF
  rw [foldR_two]
  cases h : sureB b with
  | false => rw [sureB_neg h]; unfold op2; rw [sureB_over, Bool.and_false]; rfl
  | true => rfl

/-- two fractions that lie in a block of their own -/
theorem rats_blk {W : World} {k : Nat} {t : TypeId} {x y : Rt} (hb : Blk W k t #[.int .i64 x.1, .int .i64 x.2, .int .i64 y.1, .int .i64 y.2]) (hx : Is64 x) (hy : Is64 y) : Rats W (some ⟨k, 0, none⟩) 2 2 k 0 [x, y] := by
  have key : ∀ (P : Nat → Rt → Prop), P 0 x → P 1 y → ∀ (i : Nat) (r : Rt), [x, y][i]? = some r → P i r := fun P h0 h1 i r hr => by
    match i, hr with
    | 0, hr => cases hr; exact h0
    | 1, hr => cases hr; exact h1
    | i + 2, hr => simp at hr
  refine ⟨rfl, Nat.le_refl _, by decide, fun _ => rfl, fun _ => hb.lt, key _ ?_ ?_, key _ ?_ ?_, key _ hx hy⟩
  · exact hb.cell 0
  · exact hb.cell 2
  · exact hb.cell 1
  · exact hb.cell 3

set_option maxHeartbeats 1000000 in
theorem neg_any (a : Rt) (w : World) (ha : Is64 a) : Calls Tryd.prog 11 #[rv a] w fun e w' => e = .returned (rv (negF a)) ∧ Below w.heap.size w w' := by
  have hs := fun w => sure_any a w ha
  unfold negF
  cases c1 : sureB a with
  | false =>
    rw [c1] at hs
    obtain ⟨n, d⟩ := a
    have HS := Lib.hid hs
    clear hs c1
    go_enter Tryd.func11, Tryd.ntmps11
    go_wp2_with fail
    ((with_reducible refine (HS.out _).mono ?_); rintro e w' ⟨rfl, hbw⟩)
    obtain ⟨m, rfl⟩ := grow_mk hbw
    clear hbw
    go_wp2_with fail
    exact bodyPost_ret (v := .agg #[.int .i64 0, .int .i64 0]) (by simp [results, Tryd.results11, go_sem]) rfl ⟨rfl, (((below_grow ((below_box _ _).alloc (by simp) _) m).setCell (by first | omega | (simp; done) | (simp; omega)) _).setCell (by first | omega | (simp; done) | (simp; omega)) _)⟩
  | true =>
    rw [c1] at hs
    have n1 := sureB_num c1
    obtain ⟨n, d⟩ := a
    obtain ⟨b1, b2, b3, b4⟩ := ha
    simp only at n1 b1 b2 b3 b4
    have HS := Lib.hid hs
    clear hs c1
    go_enter Tryd.func11, Tryd.ntmps11
    go_wp2_with fail
    ((with_reducible refine (HS.out _).mono ?_); rintro e w' ⟨rfl, hbw⟩)
    obtain ⟨m, rfl⟩ := grow_mk hbw
    clear hbw
    go_wp2_with fail
    exact bodyPost_ret (v := .agg #[.int .i64 (-n), .int .i64 d]) (by simp [results, Tryd.results11, go_sem]) rfl ⟨rfl, (((below_grow ((below_box _ _).alloc (by simp) _) m).setCell (by first | omega | (simp; done) | (simp; omega)) _).setCell (by first | omega | (simp; done) | (simp; omega)) _)⟩

set_option maxHeartbeats 1000000 in
theorem sub_any (a b : Rt) (w : World) (ha : Is64 a) (hb : Is64 b) : Calls Tryd.prog 12 #[rv a, rv b] w fun e w' => e = .returned (rv (subF a b)) ∧ Below w.heap.size w w' := by
  have hn := fun w => neg_any b w hb
  have n64 := is64_negF hb
  have ht := fun (W : World) k t (h : Blk W k t #[.int .i64 a.1, .int .i64 a.2, .int .i64 (negF b).1, .int .i64 (negF b).2]) => add_any W (rats_blk h ha n64)
  rw [show foldR addF (0, 1) [a, negF b] = subF a b from rfl] at ht
  generalize subF a b = R at *
  generalize negF b = nb at *
  obtain ⟨u, v⟩ := R; obtain ⟨x, y⟩ := nb; obtain ⟨n, d⟩ := a; obtain ⟨p, q⟩ := b
  have HN := Lib.hid hn
  have HT := Lib.hid ht
  clear hn ht n64
  go_enter Tryd.func12, Tryd.ntmps12
  go_wp2_with fail
  refine wp_region_loose 5 [Loose.claim 2 7 (.agg #[.int .i64 x, .int .i64 y]), Loose.rowL 3 8 23 2 #[.int .i64 n, .int .i64 d, .int .i64 x, .int .i64 y] (w.heap.size + 3), Loose.claim 4 9 (.agg #[.int .i64 u, .int .i64 v])] (by kernel_rfl) rfl (by kernel_rfl) (by kernel_rfl) (by kernel_rfl) (by kernel_rfl) ?_
  simp only [headL, hushL, List.find?, Loose.claim_i, Loose.cells_i, Loose.rowL_i, Loose.claim_hush, Loose.cells_hush, Loose.rowL_hush, Nat.reduceBEq, Nat.reduceAdd]
  repeat (go_big_quiet_step (fail))
  refine wpQuiet_nil ⟨fun V m => ?_, fun V m => ?_⟩
  · simp only [obs_cons, obs_nil, List.getElem?_cons_zero, List.getElem?_cons_succ, fill_nil, fill_claim, fill_cells, fill_rowL, Loose.claim_i, Loose.cells_i, Loose.rowL_i, Act.put, List.setIfInBounds_toArray, List.set_cons_zero, List.set_cons_succ]
    refine ⟨fun _ => ?_, fun _ => ?_, fun hw => ?_, trivial⟩
    · go_wp2_with fail
      ((with_reducible refine (HN.out _).mono ?_); rintro e w' ⟨rfl, hbw⟩)
      obtain ⟨m4, rfl⟩ := grow_mk hbw
      clear hbw
      go_wp2_with fail
      exact post_claim rfl (grow_trans_below _ _)
    · have hsz := grow_size m
      simp at hsz
      go_wp2_with fail
      exact post_rowL rfl hsz
    · obtain ⟨_, h3, _⟩ := hw
      obtain ⟨b, hv, hk, hB⟩ := h3 (by kernel_rfl)
      change V 3 = _ at hv
      rw [hv]
      clear hv h3
      go_wp2_with fail
      ((with_reducible refine (HT.out _ _ _ hB).mono ?_); rintro e w' ⟨rfl, hbw⟩)
      obtain ⟨m4, rfl⟩ := grow_mk hbw
      clear hbw
      go_wp2_with fail
      exact post_claim rfl (grow_trans_below _ _)
  · simp only [laws_nil, laws_claim, laws_cells, laws_rowL, dist_nil, dist_claim, dist_cells, dist_rowL, dist1_nil, dist1_claim, dist1_cells, dist1_rowL, dist1_cells_rowL, dist1_rowL_cells, List.drop_succ_cons, List.drop_zero, and_true, fill_nil, fill_claim, fill_cells, fill_rowL, Loose.claim_i, Loose.cells_i, Loose.rowL_i, Act.put, List.setIfInBounds_toArray, List.set_cons_zero, List.set_cons_succ]
    rintro ⟨b, hv, _, _⟩ _
    rw [hv]
    clear hv V
    go_wp2_with fail
    exact bodyPost_ret (v := .agg #[.int .i64 u, .int .i64 v]) (by simp [results, Tryd.results12, go_sem]) rfl ⟨rfl, ((below_grow (((below_box _ _).alloc (by simp) _).alloc (by simp; omega) _) _).setCell (by first | omega | (simp; done) | (simp; omega)) _).setCell (by first | omega | (simp; done) | (simp; omega)) _⟩

end Go.Proofs.YtgjhaanpkfheeaaDoor
