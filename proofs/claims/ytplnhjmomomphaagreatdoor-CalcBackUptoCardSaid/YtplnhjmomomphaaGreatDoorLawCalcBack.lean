/- CalcBack. -/
import Derived.Test.YtplnhjmomomphaaGreatDoorM36
import Derived.Test.YtplnhjmomomphaaGreatDoorM40
import Derived.Test.YtplnhjmomomphaaGreatDoorM41
import Derived.Test.YtplnhjmomomphaaGreatDoorCards
import Derived.Test.YtplnhjmomomphaaGreatDoorTie
import Derived.WalkKit
import Derived.ProofKit
import Derived.OpenShut
import Derived.Deep.DeepHandedRow
import Derived.Deep.DeepLaidRun
import Derived.Lib.LaidTab
import Derived.Lib.LaidU8
namespace Go.Proofs.YtplnhjmomomphaaGreatDoor
set_option linter.unusedVariables false
set_option linter.unusedSimpArgs false
open Go.ChangeShapes Go.WideShapes Go.ChangeAt Go.RowKit

theorem gDeb : Tryz.prog.globalNamed "math/bits.deBruijn64tab" = some 1 := by kernel_rfl
theorem gDebType : (Tryz.prog.globals[1]?).map (·.type) = some 139 := by kernel_rfl
theorem cellsDeb : Tryz.prog.cellsOf 139 = 64 := by kernel_rfl
theorem cellsU8 : Tryz.prog.cellsOf 5 = 1 := by kernel_rfl
theorem debData : (Rows.laid_math_bits_deBruijn64tab : DataW Unit) = Lib.tabData .u8 (Lib.deBruijn64tab.map fun x : Nat => (x : Int)) := by kernel_rfl

def listT : List (String × DataW Unit) := [("math/bits.deBruijn64tab", Rows.laid_math_bits_deBruijn64tab), ("unicode/utf8.acceptRanges", Rows.laid_unicode_utf8_acceptRanges), ("jalousie/jalousieref3.kinds", Rows.laid_jalousie_jalousieref3_kinds), ("unicode/utf8.first", Rows.laid_unicode_utf8_first)]

theorem debT_of_laid {W : World} (h' : laidMet Tryz.prog listT W) : Deb W := by
  obtain ⟨g, t, cs, fuel, p, e1, e2, e3, e4⟩ := Lib.laidMet.reads h' (List.mem_cons_self ..)
  obtain rfl := Option.some.inj (gDeb.symm.trans e1)
  obtain rfl := Option.some.inj (gDebType.symm.trans e2)
  rw [debData] at e4
  have e5 := Lib.cells_of_tab Tryz.underlying139 Tryz.underlying5 cellsU8 cellsDeb e4
  have ht : Lib.TabIs Tryz.prog W "math/bits.deBruijn64tab" .u8 (Lib.deBruijn64tab.map fun x : Nat => (x : Int)) := by
    unfold Lib.TabIs
    rw [e3, ← e5]
  intro j hj
  have := ht.cell gDeb j (by rw [List.length_map]; exact hj)
  simp only [List.getD_eq_getElem?_getD, List.getElem?_map, List.getElem?_eq_getElem hj, Option.map_some, Option.getD_some] at this ⊢
  exact this
theorem kdT_of_laid {W : World} (h' : laidMet Tryz.prog listT W) : Kd W := kd_of_laid_in h' (List.mem_cons_of_mem _ (List.mem_cons_of_mem _ (List.mem_cons_self ..)))

def litT : DataW Unit → Value
  | .lit (.int k n) => .int k n
  | _ => undef
def rowT : DataW Unit → List Value
  | .agg l => l.map litT
  | d => [litT d]
def allT : DataW Unit → Array Value
  | .agg l => (l.flatMap rowT).toArray
  | _ => #[]
def layT (d : DataW Unit) : Obj → Obj
  | .cells _ t frozen => .cells (allT d) t frozen
  | o => o
noncomputable def laidWorldT (os : Os) : World :=
  { World.holding Tryz.prog os ⟨#[], #[], []⟩ with heap := ((((World.holding Tryz.prog os ⟨#[], #[], []⟩).heap.modify 1 (layT Rows.laid_math_bits_deBruijn64tab)).modify 5 (layT Rows.laid_unicode_utf8_acceptRanges)).modify 0 (layT Rows.laid_jalousie_jalousieref3_kinds)).modify 4 (layT Rows.laid_unicode_utf8_first) }
def textArgs : Array Value := #[.slice none 0 0]
theorem laid_metT (os : Os) : laidMet Tryz.prog Rows.calcBackUptoRow.laid ((laidWorldT os).forCall (fun _ _ => 0) ⟨#[], textArgs, []⟩).memory :=
  laidMet_of_run3 8 (by kernel_rfl) (by kernel_rfl) (by kernel_rfl)
theorem readsT (os : Os) {H : Type} (enc : TypeId × Value → H) : DataW.whole enc Tryz.prog ((laidWorldT os).forCall (fun _ _ => 0) ⟨#[], textArgs, []⟩).memory Tryz.f3.params.toList (Rows.OpenSpec.upto Rows.calcBackSpec).vars false textArgs.toList 8 = some ([.nil], [], []) := by
  kernel_rfl

set_option maxRecDepth 100000 in
theorem calcBack_lifted (os : Os) (started : os.Started) (H : Type) (enc : TypeId × Value → H) (F : Stop.Interp) :
    ReturnsInHanded {} Tryz.checked os 3 .any ((Rows.OpenSpec.upto Rows.calcBackSpec).preRow enc Tryz.prog Tryz.f3 Rows.calcBackUptoRow.domain false Rows.calcBackUptoRow.laid) (((Rows.OpenSpec.upto Rows.calcBackSpec).at F).post enc Tryz.prog Tryz.f3 false true false false) := by
  refine returnsInHanded_of_row (C := Tryz.checked) (s := Rows.OpenSpec.upto Rows.calcBackSpec) Tryz.own started (by kernel_rfl) Tryz.func3
    (witness_row_at (enc := enc) (C := Tryz.checked) false (laidWorldT os) textArgs rfl (by kernel_rfl) (by kernel_rfl) (by kernel_rfl)
      (OpenSpec.preRow_of_cond 8 (readsT os enc) (by kernel_rfl) (fun k hk => by obtain rfl := Option.some.inj hk; rfl) (by kernel_rfl) (laid_metT os))) ?_
  intro W base args ds gs before hval0 hW _ hc hsz0 hL _ _
  have hsmall : Rows.uptoSmall H (ds ++ gs) = true := hc _ rfl
  have hval : ∀ (j : Nat) t v, Tryz.f3.params[j]? = some t → args[j]? = some v → Value.okWide Tryz.prog W .any base t v := hval0
  have hW' := hW
  have hsz : (DataW.weightsEach Tryz.prog (Tryz.f3.params.toList ++ (Rows.OpenSpec.upto Rows.calcBackSpec).bare.plain.varTypes Tryz.prog) (ds ++ gs)).all (· ≤ reachBytes) = true := hsz0
  obtain ⟨p, q, hA0, hV, rfl, hfz, hnd⟩ := hW
  have hA : DataW.TrodAll enc Tryz.prog W 0 (fun _ => true) true Tryz.f3.params.toList args.toList ds p := hA0
  rw [Tryz.params3] at hA hval hsz
  obtain ⟨v0, d0, rfl, rfl, h0⟩ := trodAll_one hA
  obtain ⟨rfl, rfl⟩ := trodVars_none hV
  obtain ⟨oa0, cap0, b0, o0, l0, hh0, rfl, hi0, hs0⟩ := open_vlsS (hval 0 22 v0 rfl rfl) h0 (reach_of hsz (j := 0) rfl rfl)
  have hbk : szV (l0.map Vl.c) ≤ 1048576 := by
    have := hsmall
    simp only [Rows.uptoSmall, List.append_nil, Rows.uptoBulkAll, decide_eq_true_eq] at this
    omega
  have hL' : laidMet Tryz.prog listT W := hL
  refine (law_calcBack hh0 l0 oa0 cap0 b0 o0 W hi0 (debT_of_laid hL') (kdT_of_laid hL') hbk).mono fun e W' ⟨he, hb⟩ => ?_
  subst he
  exact ⟨_, rfl, law_post (s := Rows.calcBackSpec) Tryz.laidOut Tryz.underlying4 rfl (by kernel_rfl) rfl (by rw [Tryz.params3]; decide +kernel) hW' hb⟩

theorem calcBack_said : Rows.CalcBackUptoSaid :=
  OpenClaim.holds_of_cond 3 Tryz.f3 rfl rfl rfl rfl rfl rfl rfl ⟨rfl, rfl, rfl, rfl, rfl⟩ rfl rfl rfl rfl rfl (by kernel_rfl) Tryz.func3 (by kernel_rfl)
    (of_decide_eq_true (by kernel_rfl)) (by unfold Func.isWrapper; first | (rw [if_pos (by decide +kernel)]; kernel_rfl) | (rw [if_neg (by decide +kernel)]; exact ⟨rfl, rfl⟩))
    (fun os started H enc _ F => by rw [OpenClaim.pre_eq_preRow]; exact calcBack_lifted os started H enc F)

theorem calcBack_plain (f : FuncId) (fn : Func) (hf : Tryz.pinned.checked.prog.funcNamed "jalousie/jalousielaw11.CalcBack" = some f) (hfn : Tryz.pinned.checked.prog.funcs[f]? = some fn) :
    false = Tryz.pinned.checked.prog.looks [] ∧ ∀ (j : Nat) t, fn.params[j]? = some t → Tryz.pinned.checked.prog.wantsStandIn t = false := by
  obtain rfl : f = 3 := Option.some.inj ((show Tryz.prog.funcNamed "jalousie/jalousielaw11.CalcBack" = some 3 by kernel_rfl).symm.trans hf) |>.symm
  obtain rfl : fn = Tryz.f3 := (Option.some.inj (Tryz.func3.symm.trans hfn)).symm
  refine ⟨by kernel_rfl, fun j t ht => ?_⟩
  rw [Tryz.params3] at ht
  have : t = 22 := by simpa using Array.mem_of_getElem? ht
  subst this
  exact (show Tryz.prog.wantsStandIn 22 = false by kernel_rfl)

theorem calcBack_card : Rows.CalcBackUptoCardSaid :=
  Claim7.holds_tied_plain_at .later [] _ _ _ _ calcBack_said (fun _ h => by cases h) (by kernel_rfl) (fun _ h => by cases h) calcBackUpto_row_tie rfl ⟨rfl, rfl⟩ (by kernel_rfl) rfl calcBack_plain (by kernel_rfl)
#print axioms calcBack_card

end Go.Proofs.YtplnhjmomomphaaGreatDoor
