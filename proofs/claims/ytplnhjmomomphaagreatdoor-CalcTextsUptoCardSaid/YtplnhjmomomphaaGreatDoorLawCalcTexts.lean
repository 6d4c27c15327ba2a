/- CalcTexts: any expression's text. The row's listed variables are tied to the program's text; what is read is of bulk at most 1048576. No condition else. -/
import Derived.Test.YtplnhjmomomphaaGreatDoorM33
import Derived.Test.YtplnhjmomomphaaGreatDoorM40
import Derived.Test.YtplnhjmomomphaaGreatDoorM41
import Derived.Test.YtplnhjmomomphaaGreatDoorCards
import Derived.Test.YtplnhjmomomphaaGreatDoorTie
import Derived.WalkKit
import Derived.ProofKit
import Derived.OpenShut
import Derived.Deep.DeepHandedRow
import Derived.Deep.DeepLaidRun
import Derived.Lib.LaidTab
import Derived.Lib.LaidU8
namespace Go.Proofs.YtplnhjmomomphaaGreatDoor
set_option linter.unusedVariables false
set_option linter.unusedSimpArgs false
open Go.ChangeShapes Go.WideShapes Go.ChangeAt Go.RowKit

theorem gPow : Tryz.prog.globalNamed "internal/strconv.uint64pow10" = some 2 := by kernel_rfl
theorem gPowType : (Tryz.prog.globals[2]?).map (·.type) = some 162 := by kernel_rfl
theorem cellsPow : Tryz.prog.cellsOf 162 = 20 := by kernel_rfl
theorem cellsU64 : Tryz.prog.cellsOf 93 = 1 := by kernel_rfl
theorem powData : (Rows.laid_internal_strconv_uint64pow10 : DataW Unit) = Lib.tabData .u64 Lib.pow10Tab := by kernel_rfl
theorem gDeb : Tryz.prog.globalNamed "math/bits.deBruijn64tab" = some 1 := by kernel_rfl
theorem gDebType : (Tryz.prog.globals[1]?).map (·.type) = some 139 := by kernel_rfl
theorem cellsDeb : Tryz.prog.cellsOf 139 = 64 := by kernel_rfl
theorem cellsU8 : Tryz.prog.cellsOf 5 = 1 := by kernel_rfl
theorem debData : (Rows.laid_math_bits_deBruijn64tab : DataW Unit) = Lib.tabData .u8 (Lib.deBruijn64tab.map fun x : Nat => (x : Int)) := by kernel_rfl

def listT : List (String × DataW Unit) := [("math/bits.deBruijn32tab", Rows.laid_math_bits_deBruijn32tab), ("math/bits.deBruijn64tab", Rows.laid_math_bits_deBruijn64tab), ("internal/strconv.uint64pow10", Rows.laid_internal_strconv_uint64pow10), ("unicode/utf8.acceptRanges", Rows.laid_unicode_utf8_acceptRanges), ("jalousie/jalousieref3.kinds", Rows.laid_jalousie_jalousieref3_kinds), ("unicode/utf8.first", Rows.laid_unicode_utf8_first)]

theorem powT_of_laid {W : World} (h' : laidMet Tryz.prog listT W) : Pow10 W := by
  obtain ⟨g, t, cs, fuel, p, e1, e2, e3, e4⟩ := Lib.laidMet.reads h' (List.mem_cons_of_mem _ (List.mem_cons_of_mem _ (List.mem_cons_self ..)))
  obtain rfl := Option.some.inj (gPow.symm.trans e1)
  obtain rfl := Option.some.inj (gPowType.symm.trans e2)
  rw [powData] at e4
  have e5 := Lib.cells_of_tab Tryz.underlying162 Tryz.underlying93 cellsU64 cellsPow e4
  unfold Pow10 Lib.TabIs
  rw [e3, ← e5]
theorem debT_of_laid {W : World} (h' : laidMet Tryz.prog listT W) : Deb W := by
  obtain ⟨g, t, cs, fuel, p, e1, e2, e3, e4⟩ := Lib.laidMet.reads h' (List.mem_cons_of_mem _ (List.mem_cons_self ..))
  obtain rfl := Option.some.inj (gDeb.symm.trans e1)
  obtain rfl := Option.some.inj (gDebType.symm.trans e2)
  rw [debData] at e4
  have e5 := Lib.cells_of_tab Tryz.underlying139 Tryz.underlying5 cellsU8 cellsDeb e4
  have ht : Lib.TabIs Tryz.prog W "math/bits.deBruijn64tab" .u8 (Lib.deBruijn64tab.map fun x : Nat => (x : Int)) := by
    unfold Lib.TabIs
    rw [e3, ← e5]
  intro j hj
  have := ht.cell gDeb j (by rw [List.length_map]; exact hj)
  simp only [List.getD_eq_getElem?_getD, List.getElem?_map, List.getElem?_eq_getElem hj, Option.map_some, Option.getD_some] at this ⊢
  exact this
theorem kdT_of_laid {W : World} (h' : laidMet Tryz.prog listT W) : Kd W := kd_of_laid_in h' (List.mem_cons_of_mem _ (List.mem_cons_of_mem _ (List.mem_cons_of_mem _ (List.mem_cons_of_mem _ (List.mem_cons_self ..)))))

set_option maxRecDepth 100000 in
theorem calcTexts_contract (H : Type) (enc : TypeId × Value → H) (W : World) (base : Nat) (args : Array Value) (ds gs : List (DataW H)) (before : List MemPlace)
    (hval0 : ∀ (j : Nat) t v, Tryz.f4.params[j]? = some t → args[j]? = some v → Value.okWide Tryz.prog W .any base t v)
    (hW : DataW.Whole enc Tryz.prog Tryz.f4.params.toList (Rows.OpenSpec.upto Rows.calcTextsSpec).vars false W args.toList ds gs before)
    (hsmall : Rows.uptoSmall H (ds ++ gs) = true)
    (hsz0 : (DataW.weightsEach Tryz.prog (Tryz.f4.params.toList ++ (Rows.OpenSpec.upto Rows.calcTextsSpec).bare.plain.varTypes Tryz.prog) (ds ++ gs)).all (· ≤ reachBytes) = true)
    (hL : laidMetH Tryz.prog Rows.calcTextsUptoRow.laid W) :
    Calls Tryz.prog 4 args W fun e W' => ∃ v, e = .returned v ∧ Rows.calcTextsSpec.post enc Tryz.prog Tryz.f4 false true false false W args v W' := by
  have hval : ∀ (j : Nat) t v, Tryz.f4.params[j]? = some t → args[j]? = some v → Value.okWide Tryz.prog W .any base t v := hval0
  have hW' := hW
  have hsz := hsz0
  obtain ⟨p, q, hA0, hV, rfl, hfz, hnd⟩ := hW
  have hA : DataW.TrodAll enc Tryz.prog W 0 (fun _ => true) true Tryz.f4.params.toList args.toList ds p := hA0
  rw [Tryz.params4] at hA hval hsz
  obtain ⟨v0, d0, rfl, rfl, h0⟩ := trodAll_one hA
  obtain ⟨rfl, rfl⟩ := trodVars_none hV
  obtain ⟨e0, hh0, rfl, hi0, hs0⟩ := expr_openS (hval 0 27 v0 rfl rfl) h0 (reach_of hsz (j := 0) rfl rfl)
  have hbk : szE e0.c ≤ 1048576 := by
    have := hsmall
    simp only [Rows.uptoSmall, List.append_nil, Rows.uptoBulkAll, decide_eq_true_eq] at this
    omega
  have hL' : laidMet Tryz.prog listT W := hL
  refine (law_calcTexts hh0 e0 W hi0 (debT_of_laid hL') (powT_of_laid hL') (kdT_of_laid hL') hbk).mono fun e W' ⟨he, hb⟩ => ?_
  subst he
  exact ⟨_, rfl, law_post (s := Rows.calcTextsSpec) Tryz.laidOut Tryz.underlying4 rfl (by kernel_rfl) rfl (by rw [Tryz.params4]; decide +kernel) hW' hb⟩

def litT : DataW Unit → Value
  | .lit (.int k n) => .int k n
  | _ => undef
def rowT : DataW Unit → List Value
  | .agg l => l.map litT
  | d => [litT d]
def allT : DataW Unit → Array Value
  | .agg l => (l.flatMap rowT).toArray
  | _ => #[]
def layT (d : DataW Unit) : Obj → Obj
  | .cells _ t frozen => .cells (allT d) t frozen
  | o => o
noncomputable def laidWorldT (os : Os) : World :=
  { World.holding Tryz.prog os ⟨#[], #[], []⟩ with heap := ((((((World.holding Tryz.prog os ⟨#[], #[], []⟩).heap.modify 6 (layT Rows.laid_math_bits_deBruijn32tab)).modify 1 (layT Rows.laid_math_bits_deBruijn64tab)).modify 2 (layT Rows.laid_internal_strconv_uint64pow10)).modify 5 (layT Rows.laid_unicode_utf8_acceptRanges)).modify 0 (layT Rows.laid_jalousie_jalousieref3_kinds)).modify 4 (layT Rows.laid_unicode_utf8_first) }
def textArgs : Array Value := #[.agg #[.int .i64 0, .int .i64 0, .int .i64 0, .int .i64 0, .slice none 0 0]]
theorem laid_metT (os : Os) : laidMet Tryz.prog Rows.calcTextsUptoRow.laid ((laidWorldT os).forCall (fun _ _ => 0) ⟨#[], textArgs, []⟩).memory :=
  laidMet_of_run3 8 (by kernel_rfl) (by kernel_rfl) (by kernel_rfl)
theorem readsT (os : Os) {H : Type} (enc : TypeId × Value → H) : DataW.whole enc Tryz.prog ((laidWorldT os).forCall (fun _ _ => 0) ⟨#[], textArgs, []⟩).memory Tryz.f4.params.toList (Rows.OpenSpec.upto Rows.calcTextsSpec).vars false textArgs.toList 8 = some ([.agg [.lit (.int .i64 0), .agg [.lit (.int .i64 0), .lit (.int .i64 0)], .lit (.int .i64 0), .nil]], [], []) := by
  kernel_rfl

set_option maxRecDepth 100000 in
theorem calcTexts_lifted (os : Os) (started : os.Started) (H : Type) (enc : TypeId × Value → H) (F : Stop.Interp) :
    ReturnsInHanded {} Tryz.checked os 4 .any ((Rows.OpenSpec.upto Rows.calcTextsSpec).preRow enc Tryz.prog Tryz.f4 Rows.calcTextsUptoRow.domain false Rows.calcTextsUptoRow.laid) (((Rows.OpenSpec.upto Rows.calcTextsSpec).at F).post enc Tryz.prog Tryz.f4 false true false false) := by
  refine returnsInHanded_of_row (C := Tryz.checked) (s := Rows.OpenSpec.upto Rows.calcTextsSpec) Tryz.own started (by kernel_rfl) Tryz.func4
    (witness_row_at (enc := enc) (C := Tryz.checked) false (laidWorldT os) textArgs rfl (by kernel_rfl) (by kernel_rfl) (by kernel_rfl)
      (OpenSpec.preRow_of_cond 8 (readsT os enc) (by kernel_rfl) (fun k hk => by obtain rfl := Option.some.inj hk; rfl) (by kernel_rfl) (laid_metT os))) ?_
  intro W base args ds gs before hval hW _ hc hsz hL _ _
  exact calcTexts_contract H enc W base args ds gs before hval hW (hc _ rfl) hsz hL

theorem calcTexts_said : Rows.CalcTextsUptoSaid :=
  OpenClaim.holds_of_cond 4 Tryz.f4 rfl rfl rfl rfl rfl rfl rfl ⟨rfl, rfl, rfl, rfl, rfl⟩ rfl rfl rfl rfl rfl (by kernel_rfl) Tryz.func4 (by kernel_rfl)
    (of_decide_eq_true (by kernel_rfl)) (by unfold Func.isWrapper; first | (rw [if_pos (by decide +kernel)]; kernel_rfl) | (rw [if_neg (by decide +kernel)]; exact ⟨rfl, rfl⟩))
    (fun os started H enc _ F => by rw [OpenClaim.pre_eq_preRow]; exact calcTexts_lifted os started H enc F)

theorem calcTexts_plain (f : FuncId) (fn : Func) (hf : Tryz.pinned.checked.prog.funcNamed "jalousie/jalousielaw11.CalcTexts" = some f) (hfn : Tryz.pinned.checked.prog.funcs[f]? = some fn) :
    false = Tryz.pinned.checked.prog.looks [] ∧ ∀ (j : Nat) t, fn.params[j]? = some t → Tryz.pinned.checked.prog.wantsStandIn t = false := by
  obtain rfl : f = 4 := Option.some.inj ((show Tryz.prog.funcNamed "jalousie/jalousielaw11.CalcTexts" = some 4 by kernel_rfl).symm.trans hf) |>.symm
  obtain rfl : fn = Tryz.f4 := (Option.some.inj (Tryz.func4.symm.trans hfn)).symm
  refine ⟨by kernel_rfl, fun j t ht => ?_⟩
  rw [Tryz.params4] at ht
  have : t = 27 := by simpa using Array.mem_of_getElem? ht
  subst this
  exact (show Tryz.prog.wantsStandIn 27 = false by kernel_rfl)

theorem calcTexts_card : Rows.CalcTextsUptoCardSaid :=
  Claim7.holds_tied_plain_at .later [] _ _ _ _ calcTexts_said (fun _ h => by cases h) (by kernel_rfl) (fun _ h => by cases h) calcTextsUpto_row_tie rfl ⟨rfl, rfl⟩ (by kernel_rfl) rfl calcTexts_plain (by kernel_rfl)
#print axioms calcTexts_card

end Go.Proofs.YtplnhjmomomphaaGreatDoor
