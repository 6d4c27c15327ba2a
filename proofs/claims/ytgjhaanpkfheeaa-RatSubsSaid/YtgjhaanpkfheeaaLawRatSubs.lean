/- RatSubs: the difference of any two fractions, and a fraction turned, are told alike by the program and the reference. No condition. -/
import Derived.Test.YtgjhaanpkfheeaaSub
import Derived.Test.YtgjhaanpkfheeaaLiftB
namespace Go.Proofs.Ytgjhaanpkfheeaa
set_option linter.unusedVariables false
set_option linter.unusedSimpArgs false
open Go.ChangeShapes Go.WideShapes Go.ChangeAt Go.RowKit

theorem neg_half : negF (1, 2) = (-1, 2) := by decide

set_option maxHeartbeats 1000000 in
theorem law_ratSubs (a b : Rt) (w : World) (ha : Is64 a) (hb : Is64 b) :
    Calls Try.prog 14 #[rv a, rv b] w fun e w' => e = .returned (.bool true) ∧ Below w.heap.size w w' := by
  have c1 := fun w => sub_any a b w ha hb
  have c2 := fun w => rsub_any a b w ha hb
  have c3 := fun w => neg_any a w ha
  have c4 := fun w => rneg_any a w ha
  have c5 := fun w => neg_any (1, 2) w (is64_small (by decide))
  rw [neg_half] at c5
  generalize subF a b = R at *
  generalize negF a = N at *
  obtain ⟨u, v⟩ := R; obtain ⟨x, y⟩ := N
  obtain ⟨n, d⟩ := a; obtain ⟨p, q⟩ := b
  have C1 := Lib.hid c1; have C2 := Lib.hid c2; have C3 := Lib.hid c3; have C4 := Lib.hid c4; have C5 := Lib.hid c5
  clear c1 c2 c3 c4 c5
  go_enter Try.func14, Try.ntmps14
  go_wp2_with fail
  refine wp_region_grow (by kernel_rfl) (by kernel_rfl) ?_
  repeat (go_big_quiet_step ((first | (go_at_call 50; with_reducible exact calls_grow (C1.out _)) | (go_at_call 51; with_reducible exact calls_grow (C2.out _)) | (go_at_call 52; with_reducible exact calls_grow (C3.out _)) | (go_at_call 52; with_reducible exact calls_grow (C5.out _)) | (go_at_call 53; with_reducible exact calls_grow (C4.out _)))))
  refine wpQuiet_nil ?_
  rintro _ ⟨m, rfl⟩
  go_wp2_with fail
  go_ret
  exact ⟨ret_bool (by simp), below_grow ((below_box _ _).alloc (by simp) _) _⟩

set_option maxRecDepth 100000 in
theorem ratSubs_lifted (os : Os) (started : os.Started) (H : Type) (enc : TypeId × Value → H) :
    ReturnsInHanded {} Try.checked os 14 .any (Rows.ratSubsSpec.pre6 enc Try.prog Try.f14 Rows.ratSubsRow.domain false) (Rows.ratSubsSpec.post enc Try.prog Try.f14 false true false false) := by
  refine returnsInHanded_of_change (C := Try.checked) Try.own started (by kernel_rfl) Try.func14
    (ChangeSpec.witness6 (enc := enc) (C := Try.checked) false ⟨#[], #[.agg #[.int .i64 0, .int .i64 0], .agg #[.int .i64 0, .int .i64 0]], []⟩ 8 (by kernel_rfl) (by kernel_rfl) (by kernel_rfl) (by kernel_rfl)) ?_
  intro W base args ds gs before hval0 hW hcnd _
  have hval : ∀ (j : Nat) t v, Try.f14.params[j]? = some t → args[j]? = some v → Value.okWide Try.prog W .any base t v := hval0
  have hW' := hW
  obtain ⟨p, q, hA0, hV, rfl, hfz, hnd⟩ := hW
  have hA : DataW.TrodAll enc Try.prog W 0 (fun _ => true) true Try.f14.params.toList args.toList ds p := hA0
  rw [Try.params14] at hA hval
  obtain ⟨v0, v1, d0, d1, p0, p1, rfl, rfl, rfl, h0, h1⟩ := trodAll_two hA
  obtain ⟨rfl, rfl⟩ := trodVars_none hV
  obtain ⟨a, rfl, rfl, rfl, wa⟩ := open_rat (hval 0 23 v0 rfl rfl) h0
  obtain ⟨b, rfl, rfl, rfl, wb⟩ := open_rat (hval 1 23 v1 rfl rfl) h1
  refine (law_ratSubs a b W wa wb).mono fun e W' ⟨he, hb⟩ => ?_
  subst he
  exact ⟨_, rfl, law_post Try.laidOut Try.underlying4 rfl (by kernel_rfl) rfl (by rw [Try.params14]; decide +kernel) hW' hb⟩

theorem ratSubs_holds : Rows.RatSubsSaid :=
  OpenClaim.holds_of_wide 14 Try.f14 rfl rfl rfl rfl rfl rfl rfl ⟨rfl, rfl, rfl, rfl, rfl⟩ rfl rfl rfl rfl rfl (by kernel_rfl) Try.func14 (by kernel_rfl)
    (of_decide_eq_true (by kernel_rfl)) (by unfold Func.isWrapper; first | (rw [if_pos (by decide +kernel)]; kernel_rfl) | (rw [if_neg (by decide +kernel)]; exact ⟨rfl, rfl⟩))
    (fun os started H enc _ => ratSubs_lifted os started H enc)
#print axioms ratSubs_holds

end Go.Proofs.Ytgjhaanpkfheeaa
