/- RatMuls: the product of some fractions is told alike by the program and the reference, for any slice of fractions. No condition. -/
import Derived.Test.YtgjhaanpkfheeaaMulP
import Derived.Test.YtgjhaanpkfheeaaRMul
import Derived.Test.YtgjhaanpkfheeaaLiftC
namespace Go.Proofs.Ytgjhaanpkfheeaa
set_option linter.unusedVariables false
set_option linter.unusedSimpArgs false
open Go.ChangeShapes Go.WideShapes Go.ChangeAt Go.RowKit

set_option maxHeartbeats 1000000 in
theorem law_ratMuls {oa : Option Addr} {len cap b o : Nat} {l : List Rt} (w : World) (h : Rats w oa len cap b o l) :
    Calls Try.prog 6 #[.slice oa len cap] w fun e w' => e = .returned (.bool true) ∧ Below w.heap.size w w' := by
  have c1 := fun (w' : World) hb => mul_any w' (h.below (w' := w') hb)
  have c2 := fun (w' : World) hb => rMul_any oa len cap b o l w' (h.below (w' := w') hb)
  have c3 := fun (w' : World) => mul_any w' (rats_nil w')
  rw [fold_ref] at c2
  rw [show foldR mulF (1, 1) [] = (1, 1) from rfl] at c3
  obtain ⟨⟨p, q⟩, hr⟩ : ∃ r, foldR mulF (1, 1) l = r := ⟨_, rfl⟩
  rw [hr] at c1 c2
  have C1 := Lib.hid c1; have C2 := Lib.hid c2; have C3 := Lib.hid c3
  clear c1 c2 c3 hr h
  go_enter Try.func6, Try.ntmps6
  go_wp2_with fail
  ((with_reducible refine (C1.out _ (Below.refl _ _)).mono ?_); rintro e w' ⟨rfl, hbw⟩)
  obtain ⟨m1, rfl⟩ := grow_mk hbw
  clear hbw
  go_wp2_with fail
  ((with_reducible refine (C2.out _ (grow_below _)).mono ?_); rintro e w' ⟨rfl, hbw⟩)
  obtain ⟨m2, rfl⟩ := grow_mk hbw
  clear hbw
  go_wp2_with fail
  ((with_reducible refine (C3.out _).mono ?_); rintro e w' ⟨rfl, hbw⟩)
  obtain ⟨m3, rfl⟩ := grow_mk hbw
  clear hbw
  go_wp2_with fail
  go_ret
  exact ⟨ret_bool rfl, below_grow (grow_below _) _⟩

set_option maxRecDepth 100000 in
theorem ratMuls_lifted (os : Os) (started : os.Started) (H : Type) (enc : TypeId × Value → H) :
    ReturnsInHanded {} Try.checked os 6 .any (Rows.ratMulsSpec.pre6 enc Try.prog Try.f6 Rows.ratMulsRow.domain false) (Rows.ratMulsSpec.post enc Try.prog Try.f6 false true false false) := by
  refine returnsInHanded_of_change (C := Try.checked) Try.own started (by kernel_rfl) Try.func6
    (ChangeSpec.witness6 (enc := enc) (C := Try.checked) false ⟨#[], #[.slice none 0 0], []⟩ 8 (by kernel_rfl) (by kernel_rfl) (by kernel_rfl) (by kernel_rfl)) ?_
  intro W base args ds gs before hval0 hW hcnd _
  have hval : ∀ (j : Nat) t v, Try.f6.params[j]? = some t → args[j]? = some v → Value.okWide Try.prog W .any base t v := hval0
  have hW' := hW
  obtain ⟨p, q, hA0, hV, rfl, hfz, hnd⟩ := hW
  have hA : DataW.TrodAll enc Try.prog W 0 (fun _ => true) true Try.f6.params.toList args.toList ds p := hA0
  rw [Try.params6] at hA hval
  obtain ⟨v0, d0, rfl, rfl, h0⟩ := trodAll_one hA
  obtain ⟨rfl, rfl⟩ := trodVars_none hV
  obtain ⟨oa, len, cap, b, o, l, rfl, hR⟩ := open_rats (hval 0 30 v0 rfl rfl) h0
  refine (law_ratMuls W hR).mono fun e W' ⟨he, hb⟩ => ?_
  subst he
  exact ⟨_, rfl, law_post Try.laidOut Try.underlying4 rfl (by kernel_rfl) rfl (by rw [Try.params6]; decide +kernel) hW' hb⟩

theorem ratMuls_holds : Rows.RatMulsSaid :=
  OpenClaim.holds_of_wide 6 Try.f6 rfl rfl rfl rfl rfl rfl rfl ⟨rfl, rfl, rfl, rfl, rfl⟩ rfl rfl rfl rfl rfl (by kernel_rfl) Try.func6 (by kernel_rfl)
    (of_decide_eq_true (by kernel_rfl)) (by unfold Func.isWrapper; first | (rw [if_pos (by decide +kernel)]; kernel_rfl) | (rw [if_neg (by decide +kernel)]; exact ⟨rfl, rfl⟩))
    (fun os started H enc _ => ratMuls_lifted os started H enc)
#print axioms ratMuls_holds

end Go.Proofs.Ytgjhaanpkfheeaa
