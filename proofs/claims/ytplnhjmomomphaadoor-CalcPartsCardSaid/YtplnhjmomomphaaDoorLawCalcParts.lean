/- CalcParts: what is added or picked from is of one kind. The row's listed variable is tied to the program's text. No condition else. -/
import Derived.Test.YtplnhjmomomphaaDoorM30
import Derived.Test.YtplnhjmomomphaaDoorM34
import Derived.Test.YtplnhjmomomphaaDoorCards
import Derived.Test.YtplnhjmomomphaaDoorTie
import Derived.WalkKit
import Derived.ProofKit
import Derived.OpenShut
import Derived.Deep.DeepHandedRow
import Derived.Deep.DeepLaidRun
import Derived.Lib.LaidTab
import Derived.Lib.LaidU8
namespace Go.Proofs.YtplnhjmomomphaaDoor
set_option linter.unusedVariables false
set_option linter.unusedSimpArgs false
open Go.ChangeShapes Go.WideShapes Go.ChangeAt Go.RowKit

set_option maxRecDepth 100000 in
theorem calcParts_contract (H : Type) (enc : TypeId × Value → H) (W : World) (base : Nat) (args : Array Value) (ds gs : List (DataW H)) (before : List MemPlace)
    (hval0 : ∀ (j : Nat) t v, Tryd.f8.params[j]? = some t → args[j]? = some v → Value.okWide Tryd.prog W .any base t v)
    (hW : DataW.Whole enc Tryd.prog Tryd.f8.params.toList Rows.calcPartsSpec.vars false W args.toList ds gs before)
    (hsz0 : (DataW.weightsEach Tryd.prog (Tryd.f8.params.toList ++ (OpenSpec.ofChange Rows.calcPartsSpec).bare.plain.varTypes Tryd.prog) (ds ++ gs)).all (· ≤ reachBytes) = true)
    (hL : laidMetH Tryd.prog Rows.calcPartsRow.laid W) :
    Calls Tryd.prog 8 args W fun e W' => ∃ v, e = .returned v ∧ Rows.calcPartsSpec.post enc Tryd.prog Tryd.f8 false true false false W args v W' := by
  have hval : ∀ (j : Nat) t v, Tryd.f8.params[j]? = some t → args[j]? = some v → Value.okWide Tryd.prog W .any base t v := hval0
  have hW' := hW
  have hsz := hsz0
  obtain ⟨p, q, hA0, hV, rfl, hfz, hnd⟩ := hW
  have hA : DataW.TrodAll enc Tryd.prog W 0 (fun _ => true) true Tryd.f8.params.toList args.toList ds p := hA0
  rw [Tryd.params8] at hA hval hsz
  obtain ⟨v0, d0, rfl, rfl, h0⟩ := trodAll_one hA
  obtain ⟨rfl, rfl⟩ := trodVars_none hV
  obtain ⟨e0, hh0, rfl, hi0⟩ := expr_open (hval 0 27 v0 rfl rfl) h0 (reach_of hsz (j := 0) rfl rfl)
  refine (law_calcParts hh0 e0 W hi0 (kd_of_laid hL)).mono fun e W' ⟨he, hb⟩ => ?_
  subst he
  exact ⟨_, rfl, law_post Tryd.laidOut Tryd.underlying4 rfl (by kernel_rfl) rfl (by rw [Tryd.params8]; decide +kernel) hW' hb⟩

def litCell : DataW Unit → Value
  | .lit (.int k n) => .int k n
  | _ => undef
def allCells : DataW Unit → Array Value
  | .agg l => (l.map litCell).toArray
  | _ => #[]
def layTab (d : DataW Unit) : Obj → Obj
  | .cells _ t frozen => .cells (allCells d) t frozen
  | o => o
noncomputable def laidWorldD (os : Os) : World :=
  { World.holding Tryd.prog os ⟨#[], #[], []⟩ with heap := (World.holding Tryd.prog os ⟨#[], #[], []⟩).heap.modify 0 (layTab Rows.laid_jalousie_jalousieref3_kinds) }
def lawArgs : Array Value := #[.agg #[.int .i64 0, .int .i64 0, .int .i64 0, .int .i64 0, .slice none 0 0]]
theorem laid_metD (os : Os) : laidMet Tryd.prog Rows.calcPartsRow.laid ((laidWorldD os).forCall (fun _ _ => 0) ⟨#[], lawArgs, []⟩).memory :=
  laidMet_of_run3 8 (by kernel_rfl) (by kernel_rfl) (by kernel_rfl)
theorem readsD (os : Os) {H : Type} (enc : TypeId × Value → H) : ∃ ds places, DataW.whole enc Tryd.prog ((laidWorldD os).forCall (fun _ _ => 0) ⟨#[], lawArgs, []⟩).memory Tryd.f8.params.toList Rows.calcPartsSpec.vars false lawArgs.toList 8 = some (ds, [], places) :=
  ⟨[.agg [.lit (.int .i64 0), .agg [.lit (.int .i64 0), .lit (.int .i64 0)], .lit (.int .i64 0), .nil]], [], by kernel_rfl⟩

set_option maxRecDepth 100000 in
theorem calcParts_lifted (os : Os) (started : os.Started) (H : Type) (enc : TypeId × Value → H) (F : Stop.Interp) :
    ReturnsInHanded {} Tryd.checked os 8 .any ((OpenSpec.ofChange Rows.calcPartsSpec).preRow enc Tryd.prog Tryd.f8 Rows.calcPartsRow.domain false Rows.calcPartsRow.laid) (((OpenSpec.ofChange Rows.calcPartsSpec).at F).post enc Tryd.prog Tryd.f8 false true false false) := by
  have hx : DataW.whole enc Tryd.prog ((laidWorldD os).forCall (fun _ _ => 0) ⟨#[], lawArgs, []⟩).memory Tryd.f8.params.toList Rows.calcPartsSpec.vars false lawArgs.toList 8 = some ([.agg [.lit (.int .i64 0), .agg [.lit (.int .i64 0), .lit (.int .i64 0)], .lit (.int .i64 0), .nil]], [], []) := by kernel_rfl
  refine returnsInHanded_of_row (C := Tryd.checked) (s := OpenSpec.ofChange Rows.calcPartsSpec) Tryd.own started (by kernel_rfl) Tryd.func8
    (witness_row_at (enc := enc) (C := Tryd.checked) false (laidWorldD os) lawArgs rfl (by kernel_rfl) (by kernel_rfl) (by kernel_rfl)
      (OpenSpec.preRow_of_cond 8 hx (by kernel_rfl) (fun k hk => by cases hk) (by kernel_rfl) (laid_metD os))) ?_
  intro W base args ds gs before hval hW _ _ hsz hL _ _
  exact calcParts_contract H enc W base args ds gs before hval hW hsz hL

theorem calcParts_said : Rows.CalcPartsSaid :=
  OpenClaim.holds_of_cond 8 Tryd.f8 rfl rfl rfl rfl rfl rfl rfl ⟨rfl, rfl, rfl, rfl, rfl⟩ rfl rfl rfl rfl rfl (by kernel_rfl) Tryd.func8 (by kernel_rfl)
    (of_decide_eq_true (by kernel_rfl)) (by unfold Func.isWrapper; first | (rw [if_pos (by decide +kernel)]; kernel_rfl) | (rw [if_neg (by decide +kernel)]; exact ⟨rfl, rfl⟩))
    (fun os started H enc _ F => by rw [OpenClaim.pre_eq_preRow]; exact calcParts_lifted os started H enc F)

theorem calcParts_plain (f : FuncId) (fn : Func) (hf : Tryd.pinned.checked.prog.funcNamed "jalousie/jalousielaw11.CalcParts" = some f) (hfn : Tryd.pinned.checked.prog.funcs[f]? = some fn) :
    false = Tryd.pinned.checked.prog.looks [] ∧ ∀ (j : Nat) t, fn.params[j]? = some t → Tryd.pinned.checked.prog.wantsStandIn t = false := by
  obtain rfl : f = 8 := Option.some.inj ((show Tryd.prog.funcNamed "jalousie/jalousielaw11.CalcParts" = some 8 by kernel_rfl).symm.trans hf) |>.symm
  obtain rfl : fn = Tryd.f8 := (Option.some.inj (Tryd.func8.symm.trans hfn)).symm
  refine ⟨by kernel_rfl, fun j t ht => ?_⟩
  rw [Tryd.params8] at ht
  have : t = 27 := by simpa using Array.mem_of_getElem? ht
  subst this
  exact (show Tryd.prog.wantsStandIn 27 = false by kernel_rfl)

theorem calcParts_card : Rows.CalcPartsCardSaid :=
  Claim7.holds_tied_plain_at .later [] _ _ _ _ calcParts_said (fun _ h => by cases h) (by kernel_rfl) (fun _ h => by cases h) calcParts_row_tie rfl ⟨rfl, rfl⟩ (by kernel_rfl) rfl calcParts_plain (by kernel_rfl)
#print axioms calcParts_card

end Go.Proofs.YtplnhjmomomphaaDoor
