/- RatAdds: the sum of some fractions is told alike by the program and the reference, for any slice of fractions. No condition. -/
import Derived.Test.YtgjhaanpkfheeaaAddP
import Derived.Test.YtgjhaanpkfheeaaRAdd
import Derived.Test.YtgjhaanpkfheeaaLiftC
namespace Go.Proofs.Ytgjhaanpkfheeaa
set_option linter.unusedVariables false
set_option linter.unusedSimpArgs false
open Go.ChangeShapes Go.WideShapes Go.ChangeAt Go.RowKit

set_option maxHeartbeats 1000000 in
theorem law_ratAdds {oa : Option Addr} {len cap b o : Nat} {l : List Rt} (w : World) (h : Rats w oa len cap b o l) :
    Calls Try.prog 13 #[.slice oa len cap] w fun e w' => e = .returned (.bool true) ∧ Below w.heap.size w w' := by
  have c1 := fun (w' : World) hb => add_any w' (h.below (w' := w') hb)
  have c2 := fun (w' : World) hb => rAdd_any oa len cap b o l w' (h.below (w' := w') hb)
  rw [fold_ref] at c2
  obtain ⟨⟨p, q⟩, hr⟩ : ∃ r, foldR addF (0, 1) l = r := ⟨_, rfl⟩
  rw [hr] at c1 c2
  have C1 := Lib.hid c1; have C2 := Lib.hid c2; have C3 := Lib.hid (fun w => awakeR_any w)
  clear c1 c2 hr h
  go_enter Try.func13, Try.ntmps13
  go_wp2_with fail
  ((with_reducible refine (C1.out _ (Below.refl _ _)).mono ?_); rintro e w' ⟨rfl, hbw⟩)
  obtain ⟨m1, rfl⟩ := grow_mk hbw
  clear hbw
  go_wp2_with fail
  ((with_reducible refine (C2.out _ (grow_below _)).mono ?_); rintro e w' ⟨rfl, hbw⟩)
  obtain ⟨m2, rfl⟩ := grow_mk hbw
  clear hbw
  go_wp2_with fail
  ((with_reducible refine (C3.out _).mono ?_); rintro e w' ⟨rfl, hbw⟩)
  obtain ⟨m3, rfl⟩ := grow_mk hbw
  clear hbw
  go_wp2_with fail
  go_ret
  exact ⟨ret_bool rfl, grow_below _⟩

set_option maxRecDepth 100000 in
theorem ratAdds_lifted (os : Os) (started : os.Started) (H : Type) (enc : TypeId × Value → H) :
    ReturnsInHanded {} Try.checked os 13 .any (Rows.ratAddsSpec.pre6 enc Try.prog Try.f13 Rows.ratAddsRow.domain false) (Rows.ratAddsSpec.post enc Try.prog Try.f13 false true false false) := by
  refine returnsInHanded_of_change (C := Try.checked) Try.own started (by kernel_rfl) Try.func13
    (ChangeSpec.witness6 (enc := enc) (C := Try.checked) false ⟨#[], #[.slice none 0 0], []⟩ 8 (by kernel_rfl) (by kernel_rfl) (by kernel_rfl) (by kernel_rfl)) ?_
  intro W base args ds gs before hval0 hW hcnd _
  have hval : ∀ (j : Nat) t v, Try.f13.params[j]? = some t → args[j]? = some v → Value.okWide Try.prog W .any base t v := hval0
  have hW' := hW
  obtain ⟨p, q, hA0, hV, rfl, hfz, hnd⟩ := hW
  have hA : DataW.TrodAll enc Try.prog W 0 (fun _ => true) true Try.f13.params.toList args.toList ds p := hA0
  rw [Try.params13] at hA hval
  obtain ⟨v0, d0, rfl, rfl, h0⟩ := trodAll_one hA
  obtain ⟨rfl, rfl⟩ := trodVars_none hV
  obtain ⟨oa, len, cap, b, o, l, rfl, hR⟩ := open_rats (hval 0 30 v0 rfl rfl) h0
  refine (law_ratAdds W hR).mono fun e W' ⟨he, hb⟩ => ?_
  subst he
  exact ⟨_, rfl, law_post Try.laidOut Try.underlying4 rfl (by kernel_rfl) rfl (by rw [Try.params13]; decide +kernel) hW' hb⟩

theorem ratAdds_holds : Rows.RatAddsSaid :=
  OpenClaim.holds_of_wide 13 Try.f13 rfl rfl rfl rfl rfl rfl rfl ⟨rfl, rfl, rfl, rfl, rfl⟩ rfl rfl rfl rfl rfl (by kernel_rfl) Try.func13 (by kernel_rfl)
    (of_decide_eq_true (by kernel_rfl)) (by unfold Func.isWrapper; first | (rw [if_pos (by decide +kernel)]; kernel_rfl) | (rw [if_neg (by decide +kernel)]; exact ⟨rfl, rfl⟩))
    (fun os started H enc _ => ratAdds_lifted os started H enc)
#print axioms ratAdds_holds

end Go.Proofs.Ytgjhaanpkfheeaa
