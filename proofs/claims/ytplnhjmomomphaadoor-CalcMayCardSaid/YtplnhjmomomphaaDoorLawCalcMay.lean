/- CalcMay: which expressions may be, as anybody makes them; the units by their names. The row's listed variable is tied to the program's text. No condition else. -/
import Derived.Test.YtplnhjmomomphaaDoorM21
import Derived.Test.YtplnhjmomomphaaDoorM30
import Derived.Test.YtplnhjmomomphaaDoorM33
import Derived.Test.YtplnhjmomomphaaDoorCards
import Derived.Test.YtplnhjmomomphaaDoorTie
import Derived.WalkKit
import Derived.ProofKit
import Derived.OpenShut
import Derived.Deep.DeepHandedRow
import Derived.Deep.DeepLaidRun
import Derived.Lib.LaidTab
import Derived.Lib.LaidU8
namespace Go.Proofs.YtplnhjmomomphaaDoor
set_option linter.unusedVariables false
set_option linter.unusedSimpArgs false
open Go.ChangeShapes Go.WideShapes Go.ChangeAt Go.RowKit

set_option maxRecDepth 100000 in
theorem calcMay_contract (H : Type) (enc : TypeId × Value → H) (W : World) (base : Nat) (args : Array Value) (ds gs : List (DataW H)) (before : List MemPlace)
    (hval0 : ∀ (j : Nat) t v, Tryd.f5.params[j]? = some t → args[j]? = some v → Value.okWide Tryd.prog W .any base t v)
    (hW : DataW.Whole enc Tryd.prog Tryd.f5.params.toList Rows.calcMaySpec.vars false W args.toList ds gs before)
    (hsz0 : (DataW.weightsEach Tryd.prog (Tryd.f5.params.toList ++ (OpenSpec.ofChange Rows.calcMaySpec).bare.plain.varTypes Tryd.prog) (ds ++ gs)).all (· ≤ reachBytes) = true)
    (hL : laidMetH Tryd.prog Rows.calcMayRow.laid W) :
    Calls Tryd.prog 5 args W fun e W' => ∃ v, e = .returned v ∧ Rows.calcMaySpec.post enc Tryd.prog Tryd.f5 false true false false W args v W' := by
  have hval : ∀ (j : Nat) t v, Tryd.f5.params[j]? = some t → args[j]? = some v → Value.okWide Tryd.prog W .any base t v := hval0
  have hW' := hW
  have hsz := hsz0
  obtain ⟨p, q, hA0, hV, rfl, hfz, hnd⟩ := hW
  have hA : DataW.TrodAll enc Tryd.prog W 0 (fun _ => true) true Tryd.f5.params.toList args.toList ds p := hA0
  rw [Tryd.params5] at hA hval hsz
  obtain ⟨v0, v1, d0, d1, p0, p1, rfl, rfl, rfl, h0, h1⟩ := trodAll_two hA
  obtain ⟨rfl, rfl⟩ := trodVars_none hV
  obtain ⟨e0, hh0, rfl, hi0⟩ := expr_open (hval 0 27 v0 rfl rfl) h0 (reach_of hsz (j := 0) rfl rfl)
  obtain ⟨s1, rfl, rfl, rfl, hi1⟩ := Go.ChangeMaps.open_string Tryd.underlying9 (hval 1 9 v1 rfl rfl) h1
  obtain ⟨⟨sl1⟩⟩ := s1
  have hi1 : sl1.length ≤ 9223372036854775807 := hi1
  refine (law_calcMay hh0 e0 sl1 W hi0 hi1 (kd_of_laid hL)).mono fun e W' ⟨he, hb⟩ => ?_
  subst he
  exact ⟨_, rfl, law_post Tryd.laidOut Tryd.underlying4 rfl (by kernel_rfl) rfl (by rw [Tryd.params5]; decide +kernel) hW' hb⟩

def litCell : DataW Unit → Value
  | .lit (.int k n) => .int k n
  | _ => undef
def allCells : DataW Unit → Array Value
  | .agg l => (l.map litCell).toArray
  | _ => #[]
def layTab (d : DataW Unit) : Obj → Obj
  | .cells _ t frozen => .cells (allCells d) t frozen
  | o => o
noncomputable def laidWorldD (os : Os) : World :=
  { World.holding Tryd.prog os ⟨#[], #[], []⟩ with heap := (World.holding Tryd.prog os ⟨#[], #[], []⟩).heap.modify 0 (layTab Rows.laid_jalousie_jalousieref3_kinds) }
def lawArgs : Array Value := #[.agg #[.int .i64 0, .int .i64 0, .int .i64 0, .int .i64 0, .slice none 0 0], .string ⟨#[]⟩]
theorem laid_metD (os : Os) : laidMet Tryd.prog Rows.calcMayRow.laid ((laidWorldD os).forCall (fun _ _ => 0) ⟨#[], lawArgs, []⟩).memory :=
  laidMet_of_run3 8 (by kernel_rfl) (by kernel_rfl) (by kernel_rfl)
theorem readsD (os : Os) {H : Type} (enc : TypeId × Value → H) : ∃ ds places, DataW.whole enc Tryd.prog ((laidWorldD os).forCall (fun _ _ => 0) ⟨#[], lawArgs, []⟩).memory Tryd.f5.params.toList Rows.calcMaySpec.vars false lawArgs.toList 8 = some (ds, [], places) :=
  ⟨[.agg [.lit (.int .i64 0), .agg [.lit (.int .i64 0), .lit (.int .i64 0)], .lit (.int .i64 0), .nil], .lit (.string [])], [], by kernel_rfl⟩

set_option maxRecDepth 100000 in
theorem calcMay_lifted (os : Os) (started : os.Started) (H : Type) (enc : TypeId × Value → H) (F : Stop.Interp) :
    ReturnsInHanded {} Tryd.checked os 5 .any ((OpenSpec.ofChange Rows.calcMaySpec).preRow enc Tryd.prog Tryd.f5 Rows.calcMayRow.domain false Rows.calcMayRow.laid) (((OpenSpec.ofChange Rows.calcMaySpec).at F).post enc Tryd.prog Tryd.f5 false true false false) := by
  have hx : DataW.whole enc Tryd.prog ((laidWorldD os).forCall (fun _ _ => 0) ⟨#[], lawArgs, []⟩).memory Tryd.f5.params.toList Rows.calcMaySpec.vars false lawArgs.toList 8 = some ([.agg [.lit (.int .i64 0), .agg [.lit (.int .i64 0), .lit (.int .i64 0)], .lit (.int .i64 0), .nil], .lit (.string [])], [], []) := by kernel_rfl
  refine returnsInHanded_of_row (C := Tryd.checked) (s := OpenSpec.ofChange Rows.calcMaySpec) Tryd.own started (by kernel_rfl) Tryd.func5
    (witness_row_at (enc := enc) (C := Tryd.checked) false (laidWorldD os) lawArgs rfl (by kernel_rfl) (by kernel_rfl) (by kernel_rfl)
      (OpenSpec.preRow_of_cond 8 hx (by kernel_rfl) (fun k hk => by cases hk) (by kernel_rfl) (laid_metD os))) ?_
  intro W base args ds gs before hval hW _ _ hsz hL _ _
  exact calcMay_contract H enc W base args ds gs before hval hW hsz hL

theorem calcMay_said : Rows.CalcMaySaid :=
  OpenClaim.holds_of_cond 5 Tryd.f5 rfl rfl rfl rfl rfl rfl rfl ⟨rfl, rfl, rfl, rfl, rfl⟩ rfl rfl rfl rfl rfl (by kernel_rfl) Tryd.func5 (by kernel_rfl)
    (of_decide_eq_true (by kernel_rfl)) (by unfold Func.isWrapper; first | (rw [if_pos (by decide +kernel)]; kernel_rfl) | (rw [if_neg (by decide +kernel)]; exact ⟨rfl, rfl⟩))
    (fun os started H enc _ F => by rw [OpenClaim.pre_eq_preRow]; exact calcMay_lifted os started H enc F)

theorem calcMay_plain (f : FuncId) (fn : Func) (hf : Tryd.pinned.checked.prog.funcNamed "jalousie/jalousielaw11.CalcMay" = some f) (hfn : Tryd.pinned.checked.prog.funcs[f]? = some fn) :
    false = Tryd.pinned.checked.prog.looks [] ∧ ∀ (j : Nat) t, fn.params[j]? = some t → Tryd.pinned.checked.prog.wantsStandIn t = false := by
  obtain rfl : f = 5 := Option.some.inj ((show Tryd.prog.funcNamed "jalousie/jalousielaw11.CalcMay" = some 5 by kernel_rfl).symm.trans hf) |>.symm
  obtain rfl : fn = Tryd.f5 := (Option.some.inj (Tryd.func5.symm.trans hfn)).symm
  refine ⟨by kernel_rfl, fun j t ht => ?_⟩
  rw [Tryd.params5] at ht
  have : t = 27 ∨ t = 9 := by simpa using Array.mem_of_getElem? ht
  rcases this with rfl | rfl
  · exact (show Tryd.prog.wantsStandIn 27 = false by kernel_rfl)
  · exact (show Tryd.prog.wantsStandIn 9 = false by kernel_rfl)

theorem calcMay_card : Rows.CalcMayCardSaid :=
  Claim7.holds_tied_plain_at .later [] _ _ _ _ calcMay_said (fun _ h => by cases h) (by kernel_rfl) (fun _ h => by cases h) calcMay_row_tie rfl ⟨rfl, rfl⟩ (by kernel_rfl) rfl calcMay_plain (by kernel_rfl)
#print axioms calcMay_card

end Go.Proofs.YtplnhjmomomphaaDoor
