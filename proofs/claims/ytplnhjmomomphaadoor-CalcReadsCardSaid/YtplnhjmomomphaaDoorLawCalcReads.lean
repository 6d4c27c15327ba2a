/- CalcReads: any text as an expression. The row's listed variable is tied to the program's text. No condition else. -/
import Derived.Test.YtplnhjmomomphaaDoorM30
import Derived.Test.YtplnhjmomomphaaDoorM31
import Derived.Test.YtplnhjmomomphaaDoorCards
import Derived.Test.YtplnhjmomomphaaDoorTie
import Derived.WalkKit
import Derived.ProofKit
import Derived.OpenShut
import Derived.Deep.DeepHandedRow
import Derived.Deep.DeepLaidRun
import Derived.Lib.LaidTab
import Derived.Lib.LaidU8
namespace Go.Proofs.YtplnhjmomomphaaDoor
set_option linter.unusedVariables false
set_option linter.unusedSimpArgs false
open Go.ChangeShapes Go.WideShapes Go.ChangeAt Go.RowKit

set_option maxRecDepth 100000 in
theorem calcReads_contract (H : Type) (enc : TypeId × Value → H) (W : World) (base : Nat) (args : Array Value) (ds gs : List (DataW H)) (before : List MemPlace)
    (hval0 : ∀ (j : Nat) t v, Tryd.f4.params[j]? = some t → args[j]? = some v → Value.okWide Tryd.prog W .any base t v)
    (hW : DataW.Whole enc Tryd.prog Tryd.f4.params.toList Rows.calcReadsSpec.vars false W args.toList ds gs before)
    (hsz0 : (DataW.weightsEach Tryd.prog (Tryd.f4.params.toList ++ (OpenSpec.ofChange Rows.calcReadsSpec).bare.plain.varTypes Tryd.prog) (ds ++ gs)).all (· ≤ reachBytes) = true)
    (hL : laidMetH Tryd.prog Rows.calcReadsRow.laid W) :
    Calls Tryd.prog 4 args W fun e W' => ∃ v, e = .returned v ∧ Rows.calcReadsSpec.post enc Tryd.prog Tryd.f4 false true false false W args v W' := by
  have hval : ∀ (j : Nat) t v, Tryd.f4.params[j]? = some t → args[j]? = some v → Value.okWide Tryd.prog W .any base t v := hval0
  have hW' := hW
  have hsz := hsz0
  obtain ⟨p, q, hA0, hV, rfl, hfz, hnd⟩ := hW
  have hA : DataW.TrodAll enc Tryd.prog W 0 (fun _ => true) true Tryd.f4.params.toList args.toList ds p := hA0
  rw [Tryd.params4] at hA hval hsz
  obtain ⟨v0, d0, rfl, rfl, h0⟩ := trodAll_one hA
  obtain ⟨rfl, rfl⟩ := trodVars_none hV
  obtain ⟨oa0, cap0, b0, o0, l0, rfl, hi0⟩ := bytes_open (hval 0 34 v0 rfl rfl) h0
  refine (law_calcReads l0 oa0 cap0 b0 o0 W hi0 (kd_of_laid hL)).mono fun e W' ⟨he, hb⟩ => ?_
  subst he
  exact ⟨_, rfl, law_post Tryd.laidOut Tryd.underlying4 rfl (by kernel_rfl) rfl (by rw [Tryd.params4]; decide +kernel) hW' hb⟩

def litCell : DataW Unit → Value
  | .lit (.int k n) => .int k n
  | _ => undef
def allCells : DataW Unit → Array Value
  | .agg l => (l.map litCell).toArray
  | _ => #[]
def layTab (d : DataW Unit) : Obj → Obj
  | .cells _ t frozen => .cells (allCells d) t frozen
  | o => o
noncomputable def laidWorldD (os : Os) : World :=
  { World.holding Tryd.prog os ⟨#[], #[], []⟩ with heap := (World.holding Tryd.prog os ⟨#[], #[], []⟩).heap.modify 0 (layTab Rows.laid_jalousie_jalousieref3_kinds) }
def lawArgs : Array Value := #[.slice none 0 0]
theorem laid_metD (os : Os) : laidMet Tryd.prog Rows.calcReadsRow.laid ((laidWorldD os).forCall (fun _ _ => 0) ⟨#[], lawArgs, []⟩).memory :=
  laidMet_of_run3 8 (by kernel_rfl) (by kernel_rfl) (by kernel_rfl)
theorem readsD (os : Os) {H : Type} (enc : TypeId × Value → H) : ∃ ds places, DataW.whole enc Tryd.prog ((laidWorldD os).forCall (fun _ _ => 0) ⟨#[], lawArgs, []⟩).memory Tryd.f4.params.toList Rows.calcReadsSpec.vars false lawArgs.toList 8 = some (ds, [], places) :=
  ⟨[.nil], [], by kernel_rfl⟩

set_option maxRecDepth 100000 in
theorem calcReads_lifted (os : Os) (started : os.Started) (H : Type) (enc : TypeId × Value → H) (F : Stop.Interp) :
    ReturnsInHanded {} Tryd.checked os 4 .any ((OpenSpec.ofChange Rows.calcReadsSpec).preRow enc Tryd.prog Tryd.f4 Rows.calcReadsRow.domain false Rows.calcReadsRow.laid) (((OpenSpec.ofChange Rows.calcReadsSpec).at F).post enc Tryd.prog Tryd.f4 false true false false) := by
  have hx : DataW.whole enc Tryd.prog ((laidWorldD os).forCall (fun _ _ => 0) ⟨#[], lawArgs, []⟩).memory Tryd.f4.params.toList Rows.calcReadsSpec.vars false lawArgs.toList 8 = some ([.nil], [], []) := by kernel_rfl
  refine returnsInHanded_of_row (C := Tryd.checked) (s := OpenSpec.ofChange Rows.calcReadsSpec) Tryd.own started (by kernel_rfl) Tryd.func4
    (witness_row_at (enc := enc) (C := Tryd.checked) false (laidWorldD os) lawArgs rfl (by kernel_rfl) (by kernel_rfl) (by kernel_rfl)
      (OpenSpec.preRow_of_cond 8 hx (by kernel_rfl) (fun k hk => by cases hk) (by kernel_rfl) (laid_metD os))) ?_
  intro W base args ds gs before hval hW _ _ hsz hL _ _
  exact calcReads_contract H enc W base args ds gs before hval hW hsz hL

theorem calcReads_said : Rows.CalcReadsSaid :=
  OpenClaim.holds_of_cond 4 Tryd.f4 rfl rfl rfl rfl rfl rfl rfl ⟨rfl, rfl, rfl, rfl, rfl⟩ rfl rfl rfl rfl rfl (by kernel_rfl) Tryd.func4 (by kernel_rfl)
    (of_decide_eq_true (by kernel_rfl)) (by unfold Func.isWrapper; first | (rw [if_pos (by decide +kernel)]; kernel_rfl) | (rw [if_neg (by decide +kernel)]; exact ⟨rfl, rfl⟩))
    (fun os started H enc _ F => by rw [OpenClaim.pre_eq_preRow]; exact calcReads_lifted os started H enc F)

theorem calcReads_plain (f : FuncId) (fn : Func) (hf : Tryd.pinned.checked.prog.funcNamed "jalousie/jalousielaw11.CalcReads" = some f) (hfn : Tryd.pinned.checked.prog.funcs[f]? = some fn) :
    false = Tryd.pinned.checked.prog.looks [] ∧ ∀ (j : Nat) t, fn.params[j]? = some t → Tryd.pinned.checked.prog.wantsStandIn t = false := by
  obtain rfl : f = 4 := Option.some.inj ((show Tryd.prog.funcNamed "jalousie/jalousielaw11.CalcReads" = some 4 by kernel_rfl).symm.trans hf) |>.symm
  obtain rfl : fn = Tryd.f4 := (Option.some.inj (Tryd.func4.symm.trans hfn)).symm
  refine ⟨by kernel_rfl, fun j t ht => ?_⟩
  rw [Tryd.params4] at ht
  have : t = 34 := by simpa using Array.mem_of_getElem? ht
  subst this
  exact (show Tryd.prog.wantsStandIn 34 = false by kernel_rfl)

theorem calcReads_card : Rows.CalcReadsCardSaid :=
  Claim7.holds_tied_plain_at .later [] _ _ _ _ calcReads_said (fun _ h => by cases h) (by kernel_rfl) (fun _ h => by cases h) calcReads_row_tie rfl ⟨rfl, rfl⟩ (by kernel_rfl) rfl calcReads_plain (by kernel_rfl)
#print axioms calcReads_card

end Go.Proofs.YtplnhjmomomphaaDoor
