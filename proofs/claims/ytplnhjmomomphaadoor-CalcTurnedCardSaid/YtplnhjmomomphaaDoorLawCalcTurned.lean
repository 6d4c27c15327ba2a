/- CalcTurned: what kind an expression is does not hang on its numbers, nor on the order. The row's listed variable is tied to the program's text. No condition else. -/
import Derived.Test.YtplnhjmomomphaaDoorM21
import Derived.Test.YtplnhjmomomphaaDoorM30
import Derived.Test.YtplnhjmomomphaaDoorM31
import Derived.Test.YtplnhjmomomphaaDoorCards
import Derived.Test.YtplnhjmomomphaaDoorTie
import Derived.WalkKit
import Derived.ProofKit
import Derived.OpenShut
import Derived.Deep.DeepHandedRow
import Derived.Deep.DeepLaidRun
import Derived.Lib.LaidTab
import Derived.Lib.LaidU8
namespace Go.Proofs.YtplnhjmomomphaaDoor
set_option linter.unusedVariables false
set_option linter.unusedSimpArgs false
open Go.ChangeShapes Go.WideShapes Go.ChangeAt Go.RowKit

set_option maxRecDepth 100000 in
theorem calcTurned_contract (H : Type) (enc : TypeId × Value → H) (W : World) (base : Nat) (args : Array Value) (ds gs : List (DataW H)) (before : List MemPlace)
    (hval0 : ∀ (j : Nat) t v, Tryd.f7.params[j]? = some t → args[j]? = some v → Value.okWide Tryd.prog W .any base t v)
    (hW : DataW.Whole enc Tryd.prog Tryd.f7.params.toList Rows.calcTurnedSpec.vars false W args.toList ds gs before)
    (hsz0 : (DataW.weightsEach Tryd.prog (Tryd.f7.params.toList ++ (OpenSpec.ofChange Rows.calcTurnedSpec).bare.plain.varTypes Tryd.prog) (ds ++ gs)).all (· ≤ reachBytes) = true)
    (hL : laidMetH Tryd.prog Rows.calcTurnedRow.laid W) :
    Calls Tryd.prog 7 args W fun e W' => ∃ v, e = .returned v ∧ Rows.calcTurnedSpec.post enc Tryd.prog Tryd.f7 false true false false W args v W' := by
  have hval : ∀ (j : Nat) t v, Tryd.f7.params[j]? = some t → args[j]? = some v → Value.okWide Tryd.prog W .any base t v := hval0
  have hW' := hW
  have hsz := hsz0
  obtain ⟨p, q, hA0, hV, rfl, hfz, hnd⟩ := hW
  have hA : DataW.TrodAll enc Tryd.prog W 0 (fun _ => true) true Tryd.f7.params.toList args.toList ds p := hA0
  rw [Tryd.params7] at hA hval hsz
  obtain ⟨v0, v1, d0, d1, p0, p1, rfl, rfl, rfl, h0, h1⟩ := trodAll_two hA
  obtain ⟨rfl, rfl⟩ := trodVars_none hV
  obtain ⟨e0, hh0, rfl, hi0⟩ := expr_open (hval 0 27 v0 rfl rfl) h0 (reach_of hsz (j := 0) rfl rfl)
  obtain ⟨r1, rfl, rfl, rfl, hi1⟩ := open_rat (hval 1 24 v1 rfl rfl) h1
  refine (law_calcTurned hh0 e0 r1 W hi0 hi1 (kd_of_laid hL)).mono fun e W' ⟨he, hb⟩ => ?_
  subst he
  exact ⟨_, rfl, law_post Tryd.laidOut Tryd.underlying4 rfl (by kernel_rfl) rfl (by rw [Tryd.params7]; decide +kernel) hW' hb⟩

def litCell : DataW Unit → Value
  | .lit (.int k n) => .int k n
  | _ => undef
def allCells : DataW Unit → Array Value
  | .agg l => (l.map litCell).toArray
  | _ => #[]
def layTab (d : DataW Unit) : Obj → Obj
  | .cells _ t frozen => .cells (allCells d) t frozen
  | o => o
noncomputable def laidWorldD (os : Os) : World :=
  { World.holding Tryd.prog os ⟨#[], #[], []⟩ with heap := (World.holding Tryd.prog os ⟨#[], #[], []⟩).heap.modify 0 (layTab Rows.laid_jalousie_jalousieref3_kinds) }
def lawArgs : Array Value := #[.agg #[.int .i64 0, .int .i64 0, .int .i64 0, .int .i64 0, .slice none 0 0], .agg #[.int .i64 0, .int .i64 0]]
theorem laid_metD (os : Os) : laidMet Tryd.prog Rows.calcTurnedRow.laid ((laidWorldD os).forCall (fun _ _ => 0) ⟨#[], lawArgs, []⟩).memory :=
  laidMet_of_run3 8 (by kernel_rfl) (by kernel_rfl) (by kernel_rfl)
theorem readsD (os : Os) {H : Type} (enc : TypeId × Value → H) : ∃ ds places, DataW.whole enc Tryd.prog ((laidWorldD os).forCall (fun _ _ => 0) ⟨#[], lawArgs, []⟩).memory Tryd.f7.params.toList Rows.calcTurnedSpec.vars false lawArgs.toList 8 = some (ds, [], places) :=
  ⟨[.agg [.lit (.int .i64 0), .agg [.lit (.int .i64 0), .lit (.int .i64 0)], .lit (.int .i64 0), .nil], .agg [.lit (.int .i64 0), .lit (.int .i64 0)]], [], by kernel_rfl⟩

set_option maxRecDepth 100000 in
theorem calcTurned_lifted (os : Os) (started : os.Started) (H : Type) (enc : TypeId × Value → H) (F : Stop.Interp) :
    ReturnsInHanded {} Tryd.checked os 7 .any ((OpenSpec.ofChange Rows.calcTurnedSpec).preRow enc Tryd.prog Tryd.f7 Rows.calcTurnedRow.domain false Rows.calcTurnedRow.laid) (((OpenSpec.ofChange Rows.calcTurnedSpec).at F).post enc Tryd.prog Tryd.f7 false true false false) := by
  have hx : DataW.whole enc Tryd.prog ((laidWorldD os).forCall (fun _ _ => 0) ⟨#[], lawArgs, []⟩).memory Tryd.f7.params.toList Rows.calcTurnedSpec.vars false lawArgs.toList 8 = some ([.agg [.lit (.int .i64 0), .agg [.lit (.int .i64 0), .lit (.int .i64 0)], .lit (.int .i64 0), .nil], .agg [.lit (.int .i64 0), .lit (.int .i64 0)]], [], []) := by kernel_rfl
  refine returnsInHanded_of_row (C := Tryd.checked) (s := OpenSpec.ofChange Rows.calcTurnedSpec) Tryd.own started (by kernel_rfl) Tryd.func7
    (witness_row_at (enc := enc) (C := Tryd.checked) false (laidWorldD os) lawArgs rfl (by kernel_rfl) (by kernel_rfl) (by kernel_rfl)
      (OpenSpec.preRow_of_cond 8 hx (by kernel_rfl) (fun k hk => by cases hk) (by kernel_rfl) (laid_metD os))) ?_
  intro W base args ds gs before hval hW _ _ hsz hL _ _
  exact calcTurned_contract H enc W base args ds gs before hval hW hsz hL

theorem calcTurned_said : Rows.CalcTurnedSaid :=
  OpenClaim.holds_of_cond 7 Tryd.f7 rfl rfl rfl rfl rfl rfl rfl ⟨rfl, rfl, rfl, rfl, rfl⟩ rfl rfl rfl rfl rfl (by kernel_rfl) Tryd.func7 (by kernel_rfl)
    (of_decide_eq_true (by kernel_rfl)) (by unfold Func.isWrapper; first | (rw [if_pos (by decide +kernel)]; kernel_rfl) | (rw [if_neg (by decide +kernel)]; exact ⟨rfl, rfl⟩))
    (fun os started H enc _ F => by rw [OpenClaim.pre_eq_preRow]; exact calcTurned_lifted os started H enc F)

theorem calcTurned_plain (f : FuncId) (fn : Func) (hf : Tryd.pinned.checked.prog.funcNamed "jalousie/jalousielaw11.CalcTurned" = some f) (hfn : Tryd.pinned.checked.prog.funcs[f]? = some fn) :
    false = Tryd.pinned.checked.prog.looks [] ∧ ∀ (j : Nat) t, fn.params[j]? = some t → Tryd.pinned.checked.prog.wantsStandIn t = false := by
  obtain rfl : f = 7 := Option.some.inj ((show Tryd.prog.funcNamed "jalousie/jalousielaw11.CalcTurned" = some 7 by kernel_rfl).symm.trans hf) |>.symm
  obtain rfl : fn = Tryd.f7 := (Option.some.inj (Tryd.func7.symm.trans hfn)).symm
  refine ⟨by kernel_rfl, fun j t ht => ?_⟩
  rw [Tryd.params7] at ht
  have : t = 27 ∨ t = 24 := by simpa using Array.mem_of_getElem? ht
  rcases this with rfl | rfl
  · exact (show Tryd.prog.wantsStandIn 27 = false by kernel_rfl)
  · exact (show Tryd.prog.wantsStandIn 24 = false by kernel_rfl)

theorem calcTurned_card : Rows.CalcTurnedCardSaid :=
  Claim7.holds_tied_plain_at .later [] _ _ _ _ calcTurned_said (fun _ h => by cases h) (by kernel_rfl) (fun _ h => by cases h) calcTurned_row_tie rfl ⟨rfl, rfl⟩ (by kernel_rfl) rfl calcTurned_plain (by kernel_rfl)
#print axioms calcTurned_card

end Go.Proofs.YtplnhjmomomphaaDoor
