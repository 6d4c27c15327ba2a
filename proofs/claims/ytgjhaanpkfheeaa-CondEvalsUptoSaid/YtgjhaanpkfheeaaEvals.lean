/- Any condition's truth by whatever truth its leaves have: the walk. -/
import Derived.Test.YtgjhaanpkfheeaaTold
namespace Go.Proofs.Ytgjhaanpkfheeaa
set_option linter.unusedVariables false
set_option linter.unusedSimpArgs false
open Go.RowKit

/-- the list of numbers l -/
def isL (l : List Int) (v : Value) (w : World) : Prop := ∃ (oa : Option Addr) (cap g : Nat), v = .slice oa l.length cap ∧ Ints w oa l.length cap g 0 l
theorem isL_stays (l : List Int) : ∀ v w1 w2, isL l v w1 → Below w1.heap.size w1 w2 → isL l v w2 := fun _ _ _ ⟨oa, cap, g, hv, hi⟩ hb => ⟨oa, cap, g, hv, hi.below hb⟩

set_option maxRecDepth 20000 in
set_option maxHeartbeats 8000000 in
theorem law_condEvals (eoa : Option Addr) (elen ecap eb eo : Nat) (ns : List ByteArray) (toa : Option Addr) (tlen tcap tb tf : Nat) (ts : List Int) (h : Nat) (e : Cd) (w : World)
    (hx : CdIn w h e) (hN : Strs w eoa elen ecap eb eo ns) (hT : Ints w toa tlen tcap tb tf ts) (hbk : (leavesC h e).length ≤ 1048576) :
    Calls Try.prog 11 #[cv e, .slice eoa elen ecap, .slice toa tlen tcap] w fun x w' => x = .returned (.bool true) ∧ Below w.heap.size w w' := by
  have hBy := fun wx (hb : Below w.heap.size w wx) => byC_any eoa elen ecap eb eo ns toa tlen tcap tb tf ts wx (hN.below hb) (hT.below hb)
  obtain ⟨l, hl⟩ : ∃ l, ((leavesM h e).map fun (lf : Lf) => byF ns ts lf.name) = l := ⟨_, rfl⟩
  have hl64 : ∀ x ∈ l, I64 x := fun x hx => by
    rw [← hl] at hx
    obtain ⟨lf, _, rfl⟩ := List.mem_map.1 hx
    exact byF_64 hT.is64 lf.name
  have hE1 := fun gN gT wx (hb : Below w.heap.size w wx) hE => cEval_by gN gT eoa elen ecap eb eo ns toa tlen tcap tb tf ts h e wx (hx.below h hb) hE
  have hTo := fun gN gT wx (hb : Below w.heap.size w wx) hE => told_any gN gT eoa elen ecap eb eo ns toa tlen tcap tb tf ts h e wx (hx.below h hb) hbk hE
  have hE2 := fun oa len cap b o wx (hb : Below w.heap.size w wx) (hI : Ints wx oa len cap b o l) => rEval_any (fun lf => byF ns ts lf.name) h e l wx oa len cap b o (hx.below h hb) hI (fun hm => Or.inl (by rw [← hl]; unfold leavesM; rw [if_pos hm, List.append_nil]))
  have hE3 := fun wx (hb : Below w.heap.size w wx) => cEval_nil h e wx (hx.below h hb)
  have hE4 := fun wx (hb : Below w.heap.size w wx) => rEval_any (fun _ => 1) h e [] wx none 0 0 0 0 (hx.below h hb) ⟨rfl, Nat.le_refl _, Nat.zero_le _, fun h => absurd h (by decide), fun h => absurd h (by decide), fun i x h => by simp at h, fun i x h => by simp at h⟩ (fun _ => Or.inr ⟨rfl, rfl, fun _ => rfl⟩)
  have hAw := awakeC_any
  rw [hl] at hTo
  obtain ⟨E1, e1⟩ : ∃ X, evalM (fun lf => byF ns ts lf.name) h e = X := ⟨_, rfl⟩
  obtain ⟨E0, e0⟩ : ∃ X, evalM (fun _ => 1) h e = X := ⟨_, rfl⟩
  simp only [e1] at hE1 hE2
  simp only [e0] at hE3 hE4
  clear hl e1 e0 hbk
  obtain ⟨c, oa, b, o, cap, kids, ⟨lk, lt, nm, op, ⟨k', n, d, u, oa', b', o', cap', kids'⟩, wd, vl, an⟩⟩ := e
  simp only [cv_mk] at hE1 hTo hE2 hE3 hE4 ⊢
  have HBY := Lib.hid hBy
  have HE1 := Lib.hid hE1
  have HTO := Lib.hid hTo
  have HE2 := Lib.hid hE2
  have HE3 := Lib.hid hE3
  have HE4 := Lib.hid hE4
  have HAW := Lib.hid hAw
  have HL64 := Lib.hid hl64
  clear hBy hE1 hTo hE2 hE3 hE4 hAw hx hN hT hl64
  have hb : Below w.heap.size w (w.alloc (.cells #[.int .i64 c, .slice oa kids.length cap, .int .i64 lk, .int .i64 lt, .string nm, .int .i64 op, .int .i64 k', .int .i64 n, .int .i64 d, .int .i64 u, .slice oa' kids'.length cap', .string wd, .string vl, .bool an] 49)) := below_box _ _
  have hbx : Blk (w.alloc (.cells #[.int .i64 c, .slice oa kids.length cap, .int .i64 lk, .int .i64 lt, .string nm, .int .i64 op, .int .i64 k', .int .i64 n, .int .i64 d, .int .i64 u, .slice oa' kids'.length cap', .string wd, .string vl, .bool an] 49)) w.heap.size 49 #[.int .i64 c, .slice oa kids.length cap, .int .i64 lk, .int .i64 lt, .string nm, .int .i64 op, .int .i64 k', .int .i64 n, .int .i64 d, .int .i64 u, .slice oa' kids'.length cap', .string wd, .string vl, .bool an] := Blk.new _ _ _
  go_enter Try.func11, Try.ntmps11
  go_wp2_with fail
  ((with_reducible refine (HBY.out _ hb).mono ?_); rintro e w' ⟨⟨gN, gT, rfl, hEnv⟩, hbw⟩)
  replace hbx := hbx.below hbw hbx.lt
  replace hb := hb.trans (hbw.mono hb.size)
  have HENV := Lib.hid hEnv
  clear hbw hEnv
  have cb0 : w'.cell? ⟨w.heap.size, 0, none⟩ = some (.int .i64 c) := (hbx).cell 0
  have fcb0 := (hbx).frozen 0
  have cb1 : w'.cell? ⟨w.heap.size, 1, none⟩ = some (.slice oa kids.length cap) := (hbx).cell 1
  have fcb1 := (hbx).frozen 1
  have cb2 : w'.cell? ⟨w.heap.size, 2, none⟩ = some (.int .i64 lk) := (hbx).cell 2
  have fcb2 := (hbx).frozen 2
  have cb3 : w'.cell? ⟨w.heap.size, 3, none⟩ = some (.int .i64 lt) := (hbx).cell 3
  have fcb3 := (hbx).frozen 3
  have cb4 : w'.cell? ⟨w.heap.size, 4, none⟩ = some (.string nm) := (hbx).cell 4
  have fcb4 := (hbx).frozen 4
  have cb5 : w'.cell? ⟨w.heap.size, 5, none⟩ = some (.int .i64 op) := (hbx).cell 5
  have fcb5 := (hbx).frozen 5
  have cb6 : w'.cell? ⟨w.heap.size, 6, none⟩ = some (.int .i64 k') := (hbx).cell 6
  have fcb6 := (hbx).frozen 6
  have cb7 : w'.cell? ⟨w.heap.size, 7, none⟩ = some (.int .i64 n) := (hbx).cell 7
  have fcb7 := (hbx).frozen 7
  have cb8 : w'.cell? ⟨w.heap.size, 8, none⟩ = some (.int .i64 d) := (hbx).cell 8
  have fcb8 := (hbx).frozen 8
  have cb9 : w'.cell? ⟨w.heap.size, 9, none⟩ = some (.int .i64 u) := (hbx).cell 9
  have fcb9 := (hbx).frozen 9
  have cb10 : w'.cell? ⟨w.heap.size, 10, none⟩ = some (.slice oa' kids'.length cap') := (hbx).cell 10
  have fcb10 := (hbx).frozen 10
  have cb11 : w'.cell? ⟨w.heap.size, 11, none⟩ = some (.string wd) := (hbx).cell 11
  have fcb11 := (hbx).frozen 11
  have cb12 : w'.cell? ⟨w.heap.size, 12, none⟩ = some (.string vl) := (hbx).cell 12
  have fcb12 := (hbx).frozen 12
  have cb13 : w'.cell? ⟨w.heap.size, 13, none⟩ = some (.bool an) := (hbx).cell 13
  have fcb13 := (hbx).frozen 13
  have lcb := (hbx).lt
  go_wp2_with fail
  refine wp_region_loose 19 [Loose.claim 2 13 (.int .i64 E1), Loose.fn 6 17 (isL l) (isL_stays l), Loose.claim 7 18 (.int .i64 E1), Loose.claim 11 22 (.int .i64 E0), Loose.claim 13 24 (.int .i64 E0), Loose.claim 17 28 (.bool true)] (by kernel_rfl) rfl (by kernel_rfl) (by kernel_rfl) (by kernel_rfl) (by kernel_rfl) ?_
  simp only [headL, hushL, List.find?, Loose.claim_i, Loose.cells_i, Loose.rowL_i, Loose.claim_hush, Loose.cells_hush, Loose.rowL_hush, Loose.val_i, Loose.rowS_i, Loose.val_hush, Loose.rowS_hush, Loose.fn_i, Loose.fn_hush, Nat.reduceBEq, Nat.reduceAdd]
  repeat (go_big_quiet_step (fail))
  refine wpQuiet_nil ⟨fun V m1 => ?_, fun V m1 => ?_⟩
  · simp only [obs_cons, obs_nil, List.getElem?_cons_zero, List.getElem?_cons_succ, fill_nil, fill_claim, fill_cells, fill_rowL, Loose.claim_i, Loose.cells_i, Loose.rowL_i, Act.put, List.setIfInBounds_toArray, List.set_cons_zero, List.set_cons_succ, fill_val, fill_rowS, Loose.val_i, Loose.rowS_i, fill_fn, Loose.fn_i]
    have hbm := below_grow hb m1
    have hEm := HENV.out.below (grow_below m1)
    refine ⟨fun _ => ?_, fun _ => ?_, fun hw => ?_, fun _ => ⟨?_, ?_⟩, fun _ => ⟨?_, ?_⟩, fun _ => ⟨?_, ?_⟩, trivial⟩
    · go_wp2_with fail
      ((with_reducible refine (HE1.out gN gT _ hbm hEm).mono ?_); rintro e w' ⟨rfl, hbw⟩)
      obtain ⟨m4, rfl⟩ := grow_mk hbw
      clear hbw
      go_wp2_with fail
      exact post_claim rfl (grow_trans_below _ _)
    · go_wp2_with fail
      ((with_reducible refine (HTO.out gN gT _ hbm hEm).mono ?_); rintro e w2 ⟨⟨oa2, cap2, rfl, hown⟩, hbw⟩)
      have HO := Lib.hid (And.intro hown hbw)
      clear hown hbw
      go_wp2_with fail
      obtain ⟨hown, hbw⟩ := HO.out
      obtain ⟨oa3, cap3, g3, hv, hI⟩ := ints_of_own hown HL64.out
      exact post_fn rfl ⟨oa3, cap3, g3, hv, hI⟩ hbw
    · obtain ⟨_, h3, _⟩ := hw
      obtain ⟨oa3, cap3, g3, hv, hI⟩ := h3 (by kernel_rfl)
      change V 6 = _ at hv
      rw [hv]
      clear hv h3
      go_wp2_with fail
      ((with_reducible refine (HE2.out oa3 l.length cap3 g3 0 _ hbm hI).mono ?_); rintro e w' ⟨rfl, hbw⟩)
      obtain ⟨m4, rfl⟩ := grow_mk hbw
      clear hbw
      go_wp2_with fail
      exact post_claim rfl (grow_trans_below _ _)
    · simp [Region.wanted, yielded]
    · go_wp2_with fail
      ((with_reducible refine (HE3.out _ hbm).mono ?_); rintro e w' ⟨rfl, hbw⟩)
      obtain ⟨m4, rfl⟩ := grow_mk hbw
      clear hbw
      go_wp2_with fail
      exact post_claim rfl (grow_trans_below _ _)
    · simp [Region.wanted, yielded]
    · go_wp2_with fail
      ((with_reducible refine (HE4.out _ hbm).mono ?_); rintro e w' ⟨rfl, hbw⟩)
      obtain ⟨m4, rfl⟩ := grow_mk hbw
      clear hbw
      go_wp2_with fail
      exact post_claim rfl (grow_trans_below _ _)
    · simp [Region.wanted, yielded]
    · go_wp2_with fail
      ((with_reducible refine (HAW.out _).mono ?_); rintro e w' ⟨rfl, hbw⟩)
      obtain ⟨m4, rfl⟩ := grow_mk hbw
      clear hbw
      go_wp2_with fail
      exact post_claim rfl (grow_trans_below _ _)
  · simp only [laws_nil, laws_claim, laws_cells, laws_rowL, laws_val, laws_rowS, laws_fn, dist_nil, dist_claim, dist_cells, dist_rowL, dist_val, dist_rowS, dist_fn, dist1_nil, dist1_claim, dist1_cells, dist1_rowL, dist1_val, dist1_cells_rowL, dist1_rowL_cells, List.drop_succ_cons, List.drop_zero, and_true, fill_nil, fill_claim, fill_cells, fill_rowL, Loose.claim_i, Loose.cells_i, Loose.rowL_i, Act.put, List.setIfInBounds_toArray, List.set_cons_zero, List.set_cons_succ, fill_val, fill_rowS, Loose.val_i, Loose.rowS_i, fill_fn, Loose.fn_i]
    rintro _ _
    replace hb := below_grow hb m1
    clear cb0 cb1 cb2 cb3 cb4 cb5 cb6 cb7 cb8 cb9 cb10 cb11 cb12 cb13 fcb0 fcb1 fcb2 fcb3 fcb4 fcb5 fcb6 fcb7 fcb8 fcb9 fcb10 fcb11 fcb12 fcb13 lcb HBY HE1 HE2 HE3 HE4 HTO HAW hbx HENV
    generalize grow _ m1 = wb at *
    go_wp2_with fail
    go_ret
    exact ⟨rfl, hb⟩

end Go.Proofs.Ytgjhaanpkfheeaa
