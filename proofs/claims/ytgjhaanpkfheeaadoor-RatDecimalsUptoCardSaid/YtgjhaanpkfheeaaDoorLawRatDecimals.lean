/- RatDecimals: any text as a number of a stylesheet: its fraction, its form, or an error. Where what is read is of bulk at most 1048576. The row's listed variables are tied to the program's text. No condition else. -/
import Derived.Test.YtgjhaanpkfheeaaDoorDecP
import Derived.Test.YtgjhaanpkfheeaaDoorDecD
import Derived.Test.YtgjhaanpkfheeaaDoorLiftB
import Derived.Test.YtgjhaanpkfheeaaDoorCards
import Derived.Test.YtgjhaanpkfheeaaDoorTie
import Derived.WalkKit
import Derived.ProofKit
import Derived.OpenShut
import Derived.Deep.DeepHandedRow
import Derived.Deep.DeepLaidRun
import Derived.Lib.LaidTab
import Derived.Lib.LaidU8
namespace Go.Proofs.YtgjhaanpkfheeaaDoor
set_option linter.unusedVariables false
set_option linter.unusedSimpArgs false
open Go.ChangeShapes Go.WideShapes Go.ChangeAt Go.RowKit

theorem decimal_half : decimalF [48, 46, 53, 48] = ((1, 2), false, true) := by decide

set_option maxRecDepth 20000 in
set_option maxHeartbeats 8000000 in
theorem law_ratDecimals (l : List UInt8) (w : World) (hl : l.length ≤ 1048576) :
    Calls Tryd.prog 5 #[.string ⟨l.toArray⟩] w fun e w' => e = .returned (.bool true) ∧ Below w.heap.size w w' := by
  have h1 := fun w => decimal_any l w hl
  have h2 := fun w => rdecimal_any l w hl
  have h3 := fun w => decimal_any [48, 46, 53, 48] w (by decide)
  rw [decimal_half] at h3
  obtain ⟨⟨⟨a, b⟩, z, ok⟩, hDF⟩ : ∃ x, decimalF l = x := ⟨_, rfl⟩
  rw [hDF] at h1 h2
  clear hDF
  obtain ⟨er, her⟩ : ∃ x, errF ok = x := ⟨_, rfl⟩
  simp only [her] at h1 h2
  have H1 := Lib.hid h1
  have H2 := Lib.hid h2
  have H3 := Lib.hid h3
  clear h1 h2 h3 her
  go_enter Tryd.func5, Tryd.ntmps5
  go_wp2_with fail
  ((with_reducible refine (H1.out _).mono ?_); rintro e w' ⟨rfl, hbw⟩)
  obtain ⟨m1, rfl⟩ := grow_mk hbw
  clear hbw
  go_upto_region 2 with fail
  have hb : Below w.heap.size w ((grow w m1).alloc (.cells #[.int .i64 a, .int .i64 b] 23)) := below_alloc_self (below_grow (Below.refl _ _) m1) _
  have ha : Blk ((grow w m1).alloc (.cells #[.int .i64 a, .int .i64 b] 23)) (grow w m1).heap.size 23 #[.int .i64 a, .int .i64 b] := Blk.new _ _ _
  generalize (grow w m1).heap.size = g1 at *
  generalize (grow w m1).alloc _ = wa at *
  go_wp2_with fail
  ((with_reducible refine (H2.out _).mono ?_); rintro e w' ⟨rfl, hbw⟩)
  obtain ⟨m2, rfl⟩ := grow_mk hbw
  clear hbw
  replace hb := below_grow hb m2
  replace ha := ha.grow m2
  generalize grow wa m2 = wb at *
  go_upto_region 3 with fail
  replace hb : Below w.heap.size w (wb.alloc (.cells #[.int .i64 a, .int .i64 b] 23)) := below_alloc_self hb _
  have hc : Blk (wb.alloc (.cells #[.int .i64 a, .int .i64 b] 23)) wb.heap.size 23 #[.int .i64 a, .int .i64 b] := Blk.new _ _ _
  replace ha : Blk (wb.alloc (.cells #[.int .i64 a, .int .i64 b] 23)) g1 23 #[.int .i64 a, .int .i64 b] := ha.old _
  generalize wb.heap.size = g2 at *
  generalize wb.alloc _ = wc at *
  go_wp2_with fail
  ((with_reducible refine (H3.out _).mono ?_); rintro e w' ⟨rfl, hbw⟩)
  obtain ⟨m3, rfl⟩ := grow_mk hbw
  clear hbw
  replace hb := below_grow hb m3
  replace ha := ha.grow m3
  replace hc := hc.grow m3
  generalize grow wc m3 = wd at *
  go_upto_region 4 with fail
  replace hb : Below w.heap.size w (wd.alloc (.cells #[.int .i64 1, .int .i64 2] 23)) := below_alloc_self hb _
  have hd : Blk (wd.alloc (.cells #[.int .i64 1, .int .i64 2] 23)) wd.heap.size 23 #[.int .i64 1, .int .i64 2] := Blk.new _ _ _
  replace ha : Blk (wd.alloc (.cells #[.int .i64 1, .int .i64 2] 23)) g1 23 #[.int .i64 a, .int .i64 b] := ha.old _
  replace hc : Blk (wd.alloc (.cells #[.int .i64 1, .int .i64 2] 23)) g2 23 #[.int .i64 a, .int .i64 b] := hc.old _
  generalize wd.heap.size = g3 at *
  generalize wd.alloc _ = we at *
  have ca0 : we.cell? ⟨g1, 0, none⟩ = some (.int .i64 a) := (ha).cell 0
  have fca0 := (ha).frozen 0
  have ca1 : we.cell? ⟨g1, 1, none⟩ = some (.int .i64 b) := (ha).cell 1
  have fca1 := (ha).frozen 1
  have lca := (ha).lt
  have cc0 : we.cell? ⟨g2, 0, none⟩ = some (.int .i64 a) := (hc).cell 0
  have fcc0 := (hc).frozen 0
  have cc1 : we.cell? ⟨g2, 1, none⟩ = some (.int .i64 b) := (hc).cell 1
  have fcc1 := (hc).frozen 1
  have lcc := (hc).lt
  have cd0 : we.cell? ⟨g3, 0, none⟩ = some (.int .i64 1) := (hd).cell 0
  have fcd0 := (hd).frozen 0
  have cd1 : we.cell? ⟨g3, 1, none⟩ = some (.int .i64 2) := (hd).cell 1
  have fcd1 := (hd).frozen 1
  have lcd := (hd).lt
  go_wp2_with fail
  go_ret
  exact ⟨ret_bool (by simp [errF]), hb⟩

set_option maxRecDepth 100000 in
theorem ratDecimals_contract (H : Type) (enc : TypeId × Value → H) (W : World) (base : Nat) (args : Array Value) (ds gs : List (DataW H)) (before : List MemPlace)
    (hval0 : ∀ (j : Nat) t v, Tryd.f5.params[j]? = some t → args[j]? = some v → Value.okWide Tryd.prog W .any base t v)
    (hW : DataW.Whole enc Tryd.prog Tryd.f5.params.toList (Rows.OpenSpec.upto Rows.ratDecimalsSpec).vars false W args.toList ds gs before)
    (hsmall : Rows.uptoSmall H (ds ++ gs) = true) :
    Calls Tryd.prog 5 args W fun e W' => ∃ v, e = .returned v ∧ Rows.ratDecimalsSpec.post enc Tryd.prog Tryd.f5 false true false false W args v W' := by
  have hval : ∀ (j : Nat) t v, Tryd.f5.params[j]? = some t → args[j]? = some v → Value.okWide Tryd.prog W .any base t v := hval0
  have hW' := hW
  obtain ⟨p, q, hA0, hV, rfl, hfz, hnd⟩ := hW
  have hA : DataW.TrodAll enc Tryd.prog W 0 (fun _ => true) true Tryd.f5.params.toList args.toList ds p := hA0
  rw [Tryd.params5] at hA hval
  obtain ⟨v1, d1, rfl, rfl, h1⟩ := trodAll_one hA
  obtain ⟨rfl, rfl⟩ := trodVars_none hV
  obtain ⟨s, rfl, rfl, rfl, ws⟩ := Go.ChangeMaps.open_string Tryd.underlying9 (hval 0 9 v1 rfl rfl) h1
  obtain ⟨⟨l⟩⟩ := s
  have hl : l.length ≤ 1048576 := by
    have := hsmall
    simp [Rows.uptoSmall, Rows.uptoBulkAll, Rows.uptoBulk] at this
    omega
  refine (law_ratDecimals l W hl).mono fun e W' ⟨he, hb⟩ => ?_
  subst he
  exact ⟨_, rfl, law_post (s := Rows.ratDecimalsSpec) Tryd.laidOut Tryd.underlying4 rfl (by kernel_rfl) rfl (by rw [Tryd.params5]; decide +kernel) hW' hb⟩

def litCell : DataW Unit → Value
  | .lit (.int k n) => .int k n
  | _ => undef
def rowCells : DataW Unit → List Value
  | .agg l => l.map litCell
  | d => [litCell d]
def allCells : DataW Unit → Array Value
  | .agg l => (l.flatMap rowCells).toArray
  | _ => #[]
def layTab (d : DataW Unit) : Obj → Obj
  | .cells _ t frozen => .cells (allCells d) t frozen
  | o => o
noncomputable def laidWorldD (os : Os) : World :=
  { World.holding Tryd.prog os ⟨#[], #[], []⟩ with heap := (((World.holding Tryd.prog os ⟨#[], #[], []⟩).heap.modify 6 (layTab Rows.laid_unicode_utf8_acceptRanges)).modify 5 (layTab Rows.laid_unicode_utf8_first)) }
def decArgs : Array Value := #[.string ⟨#[]⟩]
theorem laid_metD (os : Os) : laidMet Tryd.prog Rows.ratDecimalsUptoRow.laid ((laidWorldD os).forCall (fun _ _ => 0) ⟨#[], decArgs, []⟩).memory :=
  laidMet_of_run3 8 (by kernel_rfl) (by kernel_rfl) (by kernel_rfl)
theorem readsD (os : Os) {H : Type} (enc : TypeId × Value → H) : DataW.whole enc Tryd.prog ((laidWorldD os).forCall (fun _ _ => 0) ⟨#[], decArgs, []⟩).memory Tryd.f5.params.toList (Rows.OpenSpec.upto Rows.ratDecimalsSpec).vars false decArgs.toList 8 = some ([.lit (.string [])], [], []) := by
  kernel_rfl

set_option maxRecDepth 100000 in
theorem ratDecimals_lifted (os : Os) (started : os.Started) (H : Type) (enc : TypeId × Value → H) (F : Stop.Interp) :
    ReturnsInHanded {} Tryd.checked os 5 .any ((Rows.OpenSpec.upto Rows.ratDecimalsSpec).preRow enc Tryd.prog Tryd.f5 Rows.ratDecimalsUptoRow.domain false Rows.ratDecimalsUptoRow.laid) (((Rows.OpenSpec.upto Rows.ratDecimalsSpec).at F).post enc Tryd.prog Tryd.f5 false true false false) := by
  refine returnsInHanded_of_row (C := Tryd.checked) (s := Rows.OpenSpec.upto Rows.ratDecimalsSpec) Tryd.own started (by kernel_rfl) Tryd.func5
    (witness_row_at (enc := enc) (C := Tryd.checked) false (laidWorldD os) decArgs rfl (by kernel_rfl) (by kernel_rfl) (by kernel_rfl)
      (OpenSpec.preRow_of_cond 8 (readsD os enc) (by kernel_rfl) (fun k hk => by obtain rfl := Option.some.inj hk; rfl) (by kernel_rfl) (laid_metD os))) ?_
  intro W base args ds gs before hval hW _ hc _ _ _ _
  exact ratDecimals_contract H enc W base args ds gs before hval hW (hc _ rfl)

theorem ratDecimals_said : Rows.RatDecimalsUptoSaid :=
  OpenClaim.holds_of_cond 5 Tryd.f5 rfl rfl rfl rfl rfl rfl rfl ⟨rfl, rfl, rfl, rfl, rfl⟩ rfl rfl rfl rfl rfl (by kernel_rfl) Tryd.func5 (by kernel_rfl)
    (of_decide_eq_true (by kernel_rfl)) (by unfold Func.isWrapper; first | (rw [if_pos (by decide +kernel)]; kernel_rfl) | (rw [if_neg (by decide +kernel)]; exact ⟨rfl, rfl⟩))
    (fun os started H enc _ F => by rw [OpenClaim.pre_eq_preRow]; exact ratDecimals_lifted os started H enc F)

theorem ratDecimals_plain (f : FuncId) (fn : Func) (hf : Tryd.pinned.checked.prog.funcNamed "jalousie/jalousielaw1.RatDecimals" = some f) (hfn : Tryd.pinned.checked.prog.funcs[f]? = some fn) :
    false = Tryd.pinned.checked.prog.looks [] ∧ ∀ (j : Nat) t, fn.params[j]? = some t → Tryd.pinned.checked.prog.wantsStandIn t = false := by
  obtain rfl : f = 5 := Option.some.inj ((show Tryd.prog.funcNamed "jalousie/jalousielaw1.RatDecimals" = some 5 by kernel_rfl).symm.trans hf) |>.symm
  obtain rfl : fn = Tryd.f5 := (Option.some.inj (Tryd.func5.symm.trans hfn)).symm
  refine ⟨by kernel_rfl, fun j t ht => ?_⟩
  rw [Tryd.params5] at ht
  have : t = 9 := by simpa using Array.mem_of_getElem? ht
  subst this
  exact (show Tryd.prog.wantsStandIn 9 = false by kernel_rfl)

theorem ratDecimals_card : Rows.RatDecimalsUptoCardSaid :=
  Claim7.holds_tied_plain_at .later [] _ _ _ _ ratDecimals_said (fun _ h => by cases h) (by kernel_rfl) (fun _ h => by cases h) ratDecimalsUpto_row_tie rfl ⟨rfl, rfl⟩ (by kernel_rfl) rfl ratDecimals_plain (by kernel_rfl)
#print axioms ratDecimals_card

end Go.Proofs.YtgjhaanpkfheeaaDoor
