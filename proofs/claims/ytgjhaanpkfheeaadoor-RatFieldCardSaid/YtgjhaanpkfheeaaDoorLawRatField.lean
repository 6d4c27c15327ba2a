/- RatField: fractions are a field where nothing is over: sums and products go both ways, go on, one over the other; what is added or multiplied can be taken away again. The row's listed variable is tied to the program's text. No condition else. -/
import Derived.Test.YtgjhaanpkfheeaaDoorFieldB
import Derived.Test.YtgjhaanpkfheeaaDoorLiftB
import Derived.Test.YtgjhaanpkfheeaaDoorCards
import Derived.Test.YtgjhaanpkfheeaaDoorTie
import Derived.WalkKit
import Derived.ProofKit
import Derived.OpenShut
import Derived.Deep.DeepHandedRow
import Derived.Lib.LaidTab
import Derived.Lib.LaidU8
namespace Go.Proofs.YtgjhaanpkfheeaaDoor
set_option linter.unusedVariables false
set_option linter.unusedSimpArgs false
open Go.ChangeShapes Go.WideShapes Go.ChangeAt Go.RowKit

theorem law_ratField (a b c : Rt) (w : World) (ha : Is64 a) (hb : Is64 b) (hc : Is64 c) (hn0 : w.cell? ⟨0, 0, none⟩ = some (.int .i64 0)) (hn1 : w.cell? ⟨0, 1, none⟩ = some (.int .i64 1)) :
    Calls Tryd.prog 3 #[rv a, rv b, rv c] w fun e w' => e = .returned (.bool true) ∧ Below w.heap.size w w' := by
  cases sa : sureB a with
  | false => exact field_out a b c w ha hb hc (by rw [sa]; rfl)
  | true =>
    cases sb : sureB b with
    | false => exact field_out a b c w ha hb hc (by rw [sa, sb]; rfl)
    | true =>
      cases sc : sureB c with
      | false => exact field_out a b c w ha hb hc (by rw [sa, sb, sc]; rfl)
      | true => exact field_in a b c w ha hb hc sa sb sc hn0 hn1

theorem gNought : Tryd.prog.globalNamed "jalousie/jalousielaw1.nought" = some 0 := by kernel_rfl
theorem gNoughtType : (Tryd.prog.globals[0]?).map (·.type) = some 23 := by kernel_rfl
theorem cellsInt64 : Tryd.prog.cellsOf 2 = 1 := by kernel_rfl
theorem cellsRat : Tryd.prog.cellsOf 23 = 2 := by kernel_rfl

theorem nought_of_laid {W : World} (h : laidMetH Tryd.prog Rows.ratFieldRow.laid W) : W.cell? ⟨0, 0, none⟩ = some (.int .i64 0) ∧ W.cell? ⟨0, 1, none⟩ = some (.int .i64 1) := by
  have h' : laidMet Tryd.prog [("jalousie/jalousielaw1.nought", Rows.laid_jalousie_jalousielaw1_nought)] W := h
  obtain ⟨g, t, cs, fuel, p, e1, e2, e3, e4⟩ := Lib.laidMet.reads h' (List.mem_singleton.2 rfl)
  obtain rfl := Option.some.inj (gNought.symm.trans e1)
  obtain rfl := Option.some.inj (gNoughtType.symm.trans e2)
  have e5 := Lib.ints_of_struct (zs := [0, 1]) Tryd.underlying23 (fun i f hf => by
    rcases i with _ | _ | i
    · obtain rfl := Option.some.inj hf; exact ⟨Tryd.underlying2, rfl, cellsInt64⟩
    · obtain rfl := Option.some.inj hf; exact ⟨Tryd.underlying2, rfl, cellsInt64⟩
    · cases hf) cellsRat e4
  obtain rfl : cs = #[.int .i64 0, .int .i64 1] := by cases cs; simp_all
  exact ⟨by simpa using World.var?_cell gNought e3 0, by simpa using World.var?_cell gNought e3 1⟩

set_option maxRecDepth 100000 in
theorem ratField_contract (H : Type) (enc : TypeId × Value → H) (W : World) (base : Nat) (args : Array Value) (ds gs : List (DataW H)) (before : List MemPlace)
    (hval0 : ∀ (j : Nat) t v, Tryd.f3.params[j]? = some t → args[j]? = some v → Value.okWide Tryd.prog W .any base t v)
    (hW : DataW.Whole enc Tryd.prog Tryd.f3.params.toList Rows.ratFieldSpec.vars false W args.toList ds gs before) (hL : laidMetH Tryd.prog Rows.ratFieldRow.laid W) :
    Calls Tryd.prog 3 args W fun e W' => ∃ v, e = .returned v ∧ Rows.ratFieldSpec.post enc Tryd.prog Tryd.f3 false true false false W args v W' := by
  have hval : ∀ (j : Nat) t v, Tryd.f3.params[j]? = some t → args[j]? = some v → Value.okWide Tryd.prog W .any base t v := hval0
  have hW' := hW
  obtain ⟨p, q, hA0, hV, rfl, hfz, hnd⟩ := hW
  have hA : DataW.TrodAll enc Tryd.prog W 0 (fun _ => true) true Tryd.f3.params.toList args.toList ds p := hA0
  rw [Tryd.params3] at hA hval
  obtain ⟨v0, v1, v2, d0, d1, d2, p0, p1, p2, rfl, rfl, rfl, h0, h1, h2⟩ := trodAll_three hA
  obtain ⟨rfl, rfl⟩ := trodVars_none hV
  obtain ⟨a, rfl, rfl, rfl, wa⟩ := open_rat (hval 0 23 v0 rfl rfl) h0
  obtain ⟨b, rfl, rfl, rfl, wb⟩ := open_rat (hval 1 23 v1 rfl rfl) h1
  obtain ⟨c, rfl, rfl, rfl, wc⟩ := open_rat (hval 2 23 v2 rfl rfl) h2
  obtain ⟨n0, n1⟩ := nought_of_laid hL
  refine (law_ratField a b c W wa wb wc n0 n1).mono fun e W' ⟨he, hb⟩ => ?_
  subst he
  exact ⟨_, rfl, law_post Tryd.laidOut Tryd.underlying4 rfl (by kernel_rfl) rfl (by rw [Tryd.params3]; decide +kernel) hW' hb⟩

noncomputable def laidWorld (os : Os) : World :=
  { World.holding Tryd.prog os ⟨#[], #[], []⟩ with heap := (World.holding Tryd.prog os ⟨#[], #[], []⟩).heap.modify 0 fun
      | .cells _ t frozen => .cells #[.int .i64 0, .int .i64 1] t frozen
      | o => o }
def threeNoughts : Array Value := #[.agg #[.int .i64 0, .int .i64 0], .agg #[.int .i64 0, .int .i64 0], .agg #[.int .i64 0, .int .i64 0]]
theorem laid_met (os : Os) : laidMet Tryd.prog Rows.ratFieldRow.laid ((laidWorld os).forCall (fun _ _ => 0) ⟨#[], threeNoughts, []⟩).memory :=
  laidMet_of_run' 8 (by kernel_rfl) (by kernel_rfl)
theorem reads (os : Os) {H : Type} (enc : TypeId × Value → H) : ∃ ds places, DataW.whole enc Tryd.prog ((laidWorld os).forCall (fun _ _ => 0) ⟨#[], threeNoughts, []⟩).memory Tryd.f3.params.toList Rows.ratFieldSpec.vars false threeNoughts.toList 8 = some (ds, [], places) :=
  ⟨[.agg [.lit (.int .i64 0), .lit (.int .i64 0)], .agg [.lit (.int .i64 0), .lit (.int .i64 0)], .agg [.lit (.int .i64 0), .lit (.int .i64 0)]], [], by kernel_rfl⟩

set_option maxRecDepth 100000 in
theorem ratField_lifted (os : Os) (started : os.Started) (H : Type) (enc : TypeId × Value → H) (F : Stop.Interp) :
    ReturnsInHanded {} Tryd.checked os 3 .any ((OpenSpec.ofChange Rows.ratFieldSpec).preRow enc Tryd.prog Tryd.f3 Rows.ratFieldRow.domain false Rows.ratFieldRow.laid) (((OpenSpec.ofChange Rows.ratFieldSpec).at F).post enc Tryd.prog Tryd.f3 false true false false) := by
  obtain ⟨ds, places, hx⟩ := reads os enc
  refine returnsInHanded_of_row (C := Tryd.checked) (s := OpenSpec.ofChange Rows.ratFieldSpec) Tryd.own started (by kernel_rfl) Tryd.func3
    (witness_row_at (enc := enc) (C := Tryd.checked) false (laidWorld os) threeNoughts rfl (by kernel_rfl) (by kernel_rfl) (by kernel_rfl)
      (OpenSpec.preRow_of_cond 8 hx (by kernel_rfl) (fun k hk => by cases hk) (by kernel_rfl) (laid_met os))) ?_
  intro W base args ds gs before hval hW _ _ _ hL _ _
  exact ratField_contract H enc W base args ds gs before hval hW hL

theorem ratField_said : Rows.RatFieldSaid :=
  OpenClaim.holds_of_cond 3 Tryd.f3 rfl rfl rfl rfl rfl rfl rfl ⟨rfl, rfl, rfl, rfl, rfl⟩ rfl rfl rfl rfl rfl (by kernel_rfl) Tryd.func3 (by kernel_rfl)
    (of_decide_eq_true (by kernel_rfl)) (by unfold Func.isWrapper; first | (rw [if_pos (by decide +kernel)]; kernel_rfl) | (rw [if_neg (by decide +kernel)]; exact ⟨rfl, rfl⟩))
    (fun os started H enc _ F => by rw [OpenClaim.pre_eq_preRow]; exact ratField_lifted os started H enc F)

theorem ratField_plain (f : FuncId) (fn : Func) (hf : Tryd.pinned.checked.prog.funcNamed "jalousie/jalousielaw1.RatField" = some f) (hfn : Tryd.pinned.checked.prog.funcs[f]? = some fn) :
    false = Tryd.pinned.checked.prog.looks [] ∧ ∀ (j : Nat) t, fn.params[j]? = some t → Tryd.pinned.checked.prog.wantsStandIn t = false := by
  obtain rfl : f = 3 := Option.some.inj ((show Tryd.prog.funcNamed "jalousie/jalousielaw1.RatField" = some 3 by kernel_rfl).symm.trans hf) |>.symm
  obtain rfl : fn = Tryd.f3 := (Option.some.inj (Tryd.func3.symm.trans hfn)).symm
  refine ⟨by kernel_rfl, fun j t ht => ?_⟩
  rw [Tryd.params3] at ht
  obtain rfl : t = 23 := by simpa using Array.mem_of_getElem? ht
  exact (show Tryd.prog.wantsStandIn 23 = false by kernel_rfl)

theorem ratField_card : Rows.RatFieldCardSaid :=
  Claim7.holds_tied_plain_at .later [] _ _ _ _ ratField_said (fun _ h => by cases h) (by kernel_rfl) (fun _ h => by cases h) ratField_row_tie rfl ⟨rfl, rfl⟩ (by kernel_rfl) rfl ratField_plain (by kernel_rfl)
#print axioms ratField_card

end Go.Proofs.YtgjhaanpkfheeaaDoor
