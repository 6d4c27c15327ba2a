/- RatMay: which fractions may be and the fraction of two numbers are told alike by the program and the reference, for any two numbers of 64 bits. No condition. -/
import Derived.Test.YtgjhaanpkfheeaaRatD
import Derived.Test.YtgjhaanpkfheeaaLift
namespace Go.Proofs.Ytgjhaanpkfheeaa
set_option linter.unusedVariables false
set_option linter.unusedSimpArgs false
open Go.ChangeShapes Go.WideShapes Go.ChangeAt Go.RowKit

theorem may_two_thirds : mayB (2, 3) = true := by decide

set_option maxHeartbeats 1000000 in
theorem law_ratMay (n d : Int) (w : World) (h64 : Is64 (n, d)) :
    Calls Try.prog 3 #[.int .i64 n, .int .i64 d] w fun e w' => e = .returned (.bool true) ∧ Below w.heap.size w w' := by
  have c1 := fun w => may_any (n, d) w h64
  have c2 := fun w => rmay_any (n, d) w h64
  have c3 := fun w => of_any n d w h64
  have c4 := fun w => rof_any n d w h64
  have c5 := fun w => may_any (2, 3) w ⟨by decide, by decide, by decide, by decide⟩
  rw [may_two_thirds] at c5
  obtain ⟨⟨p, q⟩, hr⟩ : ∃ r, ofF n d = r := ⟨_, rfl⟩
  rw [hr] at c3 c4
  generalize mayB (n, d) = b at *
  have C1 := Lib.hid c1; have C2 := Lib.hid c2; have C3 := Lib.hid c3; have C4 := Lib.hid c4; have C5 := Lib.hid c5
  clear c1 c2 c3 c4 c5 hr h64
  go_enter Try.func3, Try.ntmps3
  go_wp2_with fail
  refine wp_region_grow (by kernel_rfl) (by kernel_rfl) ?_
  repeat (go_big_quiet_step ((first | (go_at_call 20; with_reducible exact calls_grow (C1.out _)) | (go_at_call 20; with_reducible exact calls_grow (C5.out _)) | (go_at_call 21; exact calls_grow (C2.out _)) | (go_at_call 22; exact calls_grow (C3.out _)) | (go_at_call 23; exact calls_grow (C4.out _)))))
  refine wpQuiet_nil ?_
  rintro _ ⟨m, rfl⟩
  go_wp2_with fail
  go_ret
  exact ⟨ret_bool rfl, below_grow (below_box _ _) m⟩

theorem is64_of_wf {n d : Int} (h1 : (Lit.int .i64 n).wf = true) (h2 : (Lit.int .i64 d).wf = true) : Is64 (n, d) := by
  simp [Lit.wf, IntKind.min, IntKind.max, IntKind.signed, IntKind.bits] at h1 h2
  exact ⟨by omega, by omega, by omega, by omega⟩

set_option maxRecDepth 100000 in
theorem ratMay_lifted (os : Os) (started : os.Started) (H : Type) (enc : TypeId × Value → H) :
    ReturnsInHanded {} Try.checked os 3 .any (Rows.ratMaySpec.pre6 enc Try.prog Try.f3 Rows.ratMayRow.domain false) (Rows.ratMaySpec.post enc Try.prog Try.f3 false true false false) := by
  refine returnsInHanded_of_change (C := Try.checked) Try.own started (by kernel_rfl) Try.func3
    (ChangeSpec.witness6 (enc := enc) (C := Try.checked) false ⟨#[], #[.int .i64 0, .int .i64 0], []⟩ 8 (by kernel_rfl) (by kernel_rfl) (by kernel_rfl) (by kernel_rfl)) ?_
  intro W base args ds gs before hval0 hW hcnd _
  have hval : ∀ (j : Nat) t v, Try.f3.params[j]? = some t → args[j]? = some v → Value.okWide Try.prog W .any base t v := hval0
  have hW' := hW
  obtain ⟨p, q, hA0, hV, rfl, hfz, hnd⟩ := hW
  have hA : DataW.TrodAll enc Try.prog W 0 (fun _ => true) true Try.f3.params.toList args.toList ds p := hA0
  rw [Try.params3] at hA hval
  obtain ⟨v0, v1, d0, d1, p0, p1, rfl, rfl, rfl, h0, h1⟩ := trodAll_two hA
  obtain ⟨rfl, rfl⟩ := trodVars_none hV
  obtain ⟨a, rfl, rfl, rfl, wa⟩ := open_int Try.underlying2 (hval 0 2 v0 rfl rfl) h0
  obtain ⟨b, rfl, rfl, rfl, wb⟩ := open_int Try.underlying2 (hval 1 2 v1 rfl rfl) h1
  refine (law_ratMay a b W (is64_of_wf wa wb)).mono fun e W' ⟨he, hb⟩ => ?_
  subst he
  exact ⟨_, rfl, law_post Try.laidOut Try.underlying4 rfl (by kernel_rfl) rfl (by rw [Try.params3]; decide +kernel) hW' hb⟩

theorem ratMay_holds : Rows.RatMaySaid :=
  OpenClaim.holds_of_wide 3 Try.f3 rfl rfl rfl rfl rfl rfl rfl ⟨rfl, rfl, rfl, rfl, rfl⟩ rfl rfl rfl rfl rfl (by kernel_rfl) Try.func3 (by kernel_rfl)
    (of_decide_eq_true (by kernel_rfl)) (by unfold Func.isWrapper; first | (rw [if_pos (by decide +kernel)]; kernel_rfl) | (rw [if_neg (by decide +kernel)]; exact ⟨rfl, rfl⟩))
    (fun os started H enc _ => ratMay_lifted os started H enc)
#print axioms ratMay_holds

end Go.Proofs.Ytgjhaanpkfheeaa
