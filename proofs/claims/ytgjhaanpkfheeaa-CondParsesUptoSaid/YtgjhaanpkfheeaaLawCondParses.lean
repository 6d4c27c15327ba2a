/- CondParses: any component values as a condition. Where what is read is of bulk at most 1048576. -/
import Derived.Test.YtgjhaanpkfheeaaM21
import Derived.Test.YtgjhaanpkfheeaaM37
import Derived.Test.YtgjhaanpkfheeaaM39
import Derived.Carry
import Derived.Deep.CondSized
namespace Go.Proofs.Ytgjhaanpkfheeaa
set_option linter.unusedVariables false
set_option linter.unusedSimpArgs false
open Go.ChangeShapes Go.WideShapes Go.ChangeAt Go.RowKit

set_option maxRecDepth 100000 in
theorem condParses_lifted (os : Os) (started : os.Started) (H : Type) (enc : TypeId × Value → H) (F : Stop.Interp) :
    ReturnsInHanded {} Try.checked os 18 .any ((Rows.OpenSpec.upto Rows.condParsesSpec).pre6 enc Try.prog Try.f18 Rows.condParsesUptoRow.domain false) (((Rows.OpenSpec.upto Rows.condParsesSpec).at F).post enc Try.prog Try.f18 false true false false) := by
  refine returnsInHanded_of_cond_sized (C := Try.checked) (s := Rows.OpenSpec.upto Rows.condParsesSpec) (k := Rows.uptoSmall) rfl Try.own started (by kernel_rfl) Try.func18
    (OpenSpec.witness (enc := enc) (C := Try.checked) (s := Rows.OpenSpec.upto Rows.condParsesSpec) (k := Rows.uptoSmall) rfl false ⟨#[], #[.slice none 0 0], []⟩ 8 (by kernel_rfl) (by kernel_rfl) (by kernel_rfl)
      (x := ([.nil], [], [])) (by kernel_rfl) rfl (by kernel_rfl)) ?_
  intro W base args ds gs before hval0 hW hcnd hsmall hsz0 _
  have hval : ∀ (j : Nat) t v, Try.f18.params[j]? = some t → args[j]? = some v → Value.okWide Try.prog W .any base t v := hval0
  have hW' := hW
  obtain ⟨p, q, hA0, hV, rfl, hfz, hnd⟩ := hW
  have hA : DataW.TrodAll enc Try.prog W 0 (fun _ => true) true Try.f18.params.toList args.toList ds p := hA0
  have hsz : (DataW.weightsEach Try.prog (Try.f18.params.toList ++ (Rows.OpenSpec.upto Rows.condParsesSpec).bare.plain.varTypes Try.prog) (ds ++ gs)).all (· ≤ reachBytes) = true := hsz0
  rw [Try.params18] at hA hval hsz
  obtain ⟨v0, d0, rfl, rfl, h0⟩ := trodAll_one hA
  obtain ⟨rfl, rfl⟩ := trodVars_none hV
  obtain ⟨oa0, cap0, b0, o0, l0, hh0, rfl, hi0, hsz1⟩ := open_vlsS (hval 0 61 v0 rfl rfl) h0 (reach_of hsz (j := 0) rfl rfl)
  have hbk : szV (l0.map Vl.c) ≤ 1048576 := by
    have := hsmall
    simp only [Rows.uptoSmall, List.append_nil, Rows.uptoBulkAll, decide_eq_true_eq] at this
    omega
  refine (law_condParses hh0 l0 oa0 cap0 b0 o0 W hi0 hbk).mono fun x W' ⟨he, hb⟩ => ?_
  subst he
  exact ⟨_, rfl, law_post (s := Rows.condParsesSpec) Try.laidOut Try.underlying4 rfl (by kernel_rfl) rfl (by rw [Try.params18]; decide +kernel) hW' hb⟩

theorem condParses_holds : Rows.CondParsesUptoSaid :=
  OpenClaim.holds_of_cond 18 Try.f18 rfl rfl rfl rfl rfl rfl rfl ⟨rfl, rfl, rfl, rfl, rfl⟩ rfl rfl rfl rfl rfl (by kernel_rfl) Try.func18 (by kernel_rfl)
    (of_decide_eq_true (by kernel_rfl)) (by unfold Func.isWrapper; first | (rw [if_pos (by decide +kernel)]; kernel_rfl) | (rw [if_neg (by decide +kernel)]; exact ⟨rfl, rfl⟩))
    (fun os started H enc _ F => condParses_lifted os started H enc F)
#print axioms condParses_holds

end Go.Proofs.Ytgjhaanpkfheeaa
