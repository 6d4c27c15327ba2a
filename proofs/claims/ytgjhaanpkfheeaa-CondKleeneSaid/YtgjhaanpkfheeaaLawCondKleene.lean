/- CondKleene: what is known does not turn: a condition that is true, or false, with some leaves unknown is so whatever these are. No condition. -/
import Derived.Test.YtgjhaanpkfheeaaKleene
import Derived.Test.YtgjhaanpkfheeaaLiftE
import Derived.Carry
namespace Go.Proofs.Ytgjhaanpkfheeaa
set_option linter.unusedVariables false
set_option linter.unusedSimpArgs false
open Go.ChangeShapes Go.WideShapes Go.ChangeAt Go.RowKit

set_option maxRecDepth 100000 in
theorem condKleene_lifted (os : Os) (started : os.Started) (H : Type) (enc : TypeId × Value → H) :
    ReturnsInHanded {} Try.checked os 12 .any (Rows.condKleeneSpec.pre6 enc Try.prog Try.f12 Rows.condKleeneRow.domain false) (Rows.condKleeneSpec.post enc Try.prog Try.f12 false true false false) := by
  refine returnsInHanded_of_change_sized (C := Try.checked) Try.own started (by kernel_rfl) Try.func12
    (ChangeSpec.witness6 (enc := enc) (C := Try.checked) false ⟨#[], #[.agg #[.int .i64 0, .slice none 0 0, .int .i64 0, .int .i64 0, .string ⟨#[]⟩, .int .i64 0, .int .i64 0, .int .i64 0, .int .i64 0, .int .i64 0, .slice none 0 0, .string ⟨#[]⟩, .string ⟨#[]⟩, .bool false], .slice none 0 0, .slice none 0 0, .slice none 0 0], []⟩ 8 (by kernel_rfl) (by kernel_rfl) (by kernel_rfl) (by kernel_rfl)) ?_
  intro W base args ds gs before hval0 hW hcnd hsz0 _
  have hval : ∀ (j : Nat) t v, Try.f12.params[j]? = some t → args[j]? = some v → Value.okWide Try.prog W .any base t v := hval0
  have hW' := hW
  obtain ⟨p, q, hA0, hV, rfl, hfz, hnd⟩ := hW
  have hA : DataW.TrodAll enc Try.prog W 0 (fun _ => true) true Try.f12.params.toList args.toList ds p := hA0
  have hsz : (DataW.weightsEach Try.prog (Try.f12.params.toList ++ Rows.condKleeneSpec.plain.varTypes Try.prog) (ds ++ gs)).all (· ≤ reachBytes) = true := hsz0
  rw [Try.params12] at hA hval hsz
  obtain ⟨v0, v1, v2, v3, d0, d1, d2, d3, p0, p1, p2, p3, rfl, rfl, rfl, h0, h1, h2, h3⟩ := trodAll_four hA
  obtain ⟨rfl, rfl⟩ := trodVars_none hV
  obtain ⟨e, h, rfl, hin, _⟩ := cond_open (hval 0 49 v0 rfl rfl) h0 (reach_of hsz (j := 0) rfl rfl)
  obtain ⟨eoa, elen, ecap, eb, eo, ns, rfl, hN⟩ := strs_open (hval 1 50 v1 rfl rfl) h1
  obtain ⟨toa, tlen, tcap, tb, tf, ts, rfl, hT⟩ := ints_open (hval 2 36 v2 rfl rfl) h2
  obtain ⟨uoa, ulen, ucap, ub, uf, us, rfl, hU⟩ := ints_open (hval 3 36 v3 rfl rfl) h3
  have hlen := ints_reach h2 (reach_of hsz (j := 2) rfl rfl)
  rw [hT.hlen] at hlen
  refine (law_condKleene eoa elen ecap eb eo ns toa tlen tcap tb tf ts uoa ulen ucap ub uf us h e W hin hN hT hU hlen).mono fun x W' ⟨he, hb⟩ => ?_
  subst he
  exact ⟨_, rfl, law_post Try.laidOut Try.underlying4 rfl (by kernel_rfl) rfl (by rw [Try.params12]; decide +kernel) hW' hb⟩

theorem condKleene_holds : Rows.CondKleeneSaid :=
  OpenClaim.holds_of_wide 12 Try.f12 rfl rfl rfl rfl rfl rfl rfl ⟨rfl, rfl, rfl, rfl, rfl⟩ rfl rfl rfl rfl rfl (by kernel_rfl) Try.func12 (by kernel_rfl)
    (of_decide_eq_true (by kernel_rfl)) (by unfold Func.isWrapper; first | (rw [if_pos (by decide +kernel)]; kernel_rfl) | (rw [if_neg (by decide +kernel)]; exact ⟨rfl, rfl⟩))
    (fun os started H enc _ => condKleene_lifted os started H enc)
#print axioms condKleene_holds

end Go.Proofs.Ytgjhaanpkfheeaa
