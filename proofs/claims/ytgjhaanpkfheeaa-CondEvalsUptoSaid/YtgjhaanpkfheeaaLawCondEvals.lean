/- CondEvals: any condition's truth, by whatever truth its leaves have. Where what is read is of bulk at most 1048576. -/
import Derived.Test.YtgjhaanpkfheeaaEvals
import Derived.Test.YtgjhaanpkfheeaaLiftE
import Derived.Carry
import Derived.Deep.CondSized
namespace Go.Proofs.Ytgjhaanpkfheeaa
set_option linter.unusedVariables false
set_option linter.unusedSimpArgs false
open Go.ChangeShapes Go.WideShapes Go.ChangeAt Go.RowKit

set_option maxRecDepth 100000 in
theorem condEvals_lifted (os : Os) (started : os.Started) (H : Type) (enc : TypeId × Value → H) (F : Stop.Interp) :
    ReturnsInHanded {} Try.checked os 11 .any ((Rows.OpenSpec.upto Rows.condEvalsSpec).pre6 enc Try.prog Try.f11 Rows.condEvalsUptoRow.domain false) (((Rows.OpenSpec.upto Rows.condEvalsSpec).at F).post enc Try.prog Try.f11 false true false false) := by
  refine returnsInHanded_of_cond_sized (C := Try.checked) (s := Rows.OpenSpec.upto Rows.condEvalsSpec) (k := Rows.uptoSmall) rfl Try.own started (by kernel_rfl) Try.func11
    (OpenSpec.witness (enc := enc) (C := Try.checked) (s := Rows.OpenSpec.upto Rows.condEvalsSpec) (k := Rows.uptoSmall) rfl false ⟨#[], #[.agg #[.int .i64 0, .slice none 0 0, .int .i64 0, .int .i64 0, .string ⟨#[]⟩, .int .i64 0, .int .i64 0, .int .i64 0, .int .i64 0, .int .i64 0, .slice none 0 0, .string ⟨#[]⟩, .string ⟨#[]⟩, .bool false], .slice none 0 0, .slice none 0 0], []⟩ 8 (by kernel_rfl) (by kernel_rfl) (by kernel_rfl)
      (x := ([.agg [.lit (.int .i64 0), .nil, .agg [.lit (.int .i64 0), .lit (.int .i64 0), .lit (.string []), .lit (.int .i64 0), .agg [.lit (.int .i64 0), .agg [.lit (.int .i64 0), .lit (.int .i64 0)], .lit (.int .i64 0), .nil], .lit (.string []), .lit (.string []), .lit (.bool false)]], .nil, .nil], [], [])) (by kernel_rfl) rfl (by kernel_rfl)) ?_
  intro W base args ds gs before hval0 hW hcnd hsmall hsz0 _
  have hval : ∀ (j : Nat) t v, Try.f11.params[j]? = some t → args[j]? = some v → Value.okWide Try.prog W .any base t v := hval0
  have hW' := hW
  obtain ⟨p, q, hA0, hV, rfl, hfz, hnd⟩ := hW
  have hA : DataW.TrodAll enc Try.prog W 0 (fun _ => true) true Try.f11.params.toList args.toList ds p := hA0
  have hsz : (DataW.weightsEach Try.prog (Try.f11.params.toList ++ (Rows.OpenSpec.upto Rows.condEvalsSpec).bare.plain.varTypes Try.prog) (ds ++ gs)).all (· ≤ reachBytes) = true := hsz0
  rw [Try.params11] at hA hval hsz
  obtain ⟨v0, v1, v2, d0, d1, d2, p0, p1, p2, rfl, rfl, rfl, h0, h1, h2⟩ := trodAll_three hA
  obtain ⟨rfl, rfl⟩ := trodVars_none hV
  obtain ⟨e, h, rfl, hin, hlv⟩ := cond_open (hval 0 49 v0 rfl rfl) h0 (reach_of hsz (j := 0) rfl rfl)
  obtain ⟨eoa, elen, ecap, eb, eo, ns, rfl, hN⟩ := strs_open (hval 1 50 v1 rfl rfl) h1
  obtain ⟨toa, tlen, tcap, tb, tf, ts, rfl, hT⟩ := ints_open (hval 2 36 v2 rfl rfl) h2
  have hbk : (leavesC h e).length ≤ 1048576 := by
    have := hsmall
    simp only [Rows.uptoSmall, List.append_nil, Rows.uptoBulkAll, decide_eq_true_eq] at this
    omega
  refine (law_condEvals eoa elen ecap eb eo ns toa tlen tcap tb tf ts h e W hin hN hT hbk).mono fun x W' ⟨he, hb⟩ => ?_
  subst he
  exact ⟨_, rfl, law_post (s := Rows.condEvalsSpec) Try.laidOut Try.underlying4 rfl (by kernel_rfl) rfl (by rw [Try.params11]; decide +kernel) hW' hb⟩

theorem condEvals_holds : Rows.CondEvalsUptoSaid :=
  OpenClaim.holds_of_cond 11 Try.f11 rfl rfl rfl rfl rfl rfl rfl ⟨rfl, rfl, rfl, rfl, rfl⟩ rfl rfl rfl rfl rfl (by kernel_rfl) Try.func11 (by kernel_rfl)
    (of_decide_eq_true (by kernel_rfl)) (by unfold Func.isWrapper; first | (rw [if_pos (by decide +kernel)]; kernel_rfl) | (rw [if_neg (by decide +kernel)]; exact ⟨rfl, rfl⟩))
    (fun os started H enc _ F => condEvals_lifted os started H enc F)
#print axioms condEvals_holds

end Go.Proofs.Ytgjhaanpkfheeaa
