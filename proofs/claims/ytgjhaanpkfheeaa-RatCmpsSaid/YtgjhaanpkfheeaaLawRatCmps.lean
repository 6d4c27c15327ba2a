/- RatCmps: which of two fractions is greater is told alike by the program and the reference, for any two fractions. No condition. -/
import Derived.Test.YtgjhaanpkfheeaaRatF
import Derived.Test.YtgjhaanpkfheeaaLiftB
namespace Go.Proofs.Ytgjhaanpkfheeaa
set_option linter.unusedVariables false
set_option linter.unusedSimpArgs false
open Go.ChangeShapes Go.WideShapes Go.ChangeAt Go.RowKit

theorem cmp_half_third : cmpR (1, 2) (1, 3) = 1 := by decide
theorem sure_half_third : (sureB (1, 2) && sureB (1, 3)) = true := by decide

set_option maxHeartbeats 1000000 in
theorem law_ratCmps (a b : Rt) (w : World) (ha : Is64 a) (hb : Is64 b) :
    Calls Try.prog 4 #[rv a, rv b] w fun e w' => e = .returned (.bool true) ∧ Below w.heap.size w w' := by
  have c1 := fun w => cmp_any a b w ha hb
  have c2 := fun w => rcmp_any a b w ha hb
  have c3 := fun w => cmp_any (1, 2) (1, 3) w ⟨by decide, by decide, by decide, by decide⟩ ⟨by decide, by decide, by decide, by decide⟩
  rw [cmp_half_third, sure_half_third] at c3
  generalize cmpR a b = c at *
  generalize (sureB a && sureB b) = s at *
  obtain ⟨n, d⟩ := a; obtain ⟨p, q⟩ := b
  have C1 := Lib.hid c1; have C2 := Lib.hid c2; have C3 := Lib.hid c3
  clear c1 c2 c3
  go_enter Try.func4, Try.ntmps4
  go_wp2_with fail
  ((with_reducible refine (C1.out _).mono ?_); rintro e w' ⟨rfl, hbw⟩)
  obtain ⟨m1, rfl⟩ := grow_mk hbw
  clear hbw
  go_wp2_with fail
  ((with_reducible refine (C2.out _).mono ?_); rintro e w' ⟨rfl, hbw⟩)
  obtain ⟨m2, rfl⟩ := grow_mk hbw
  clear hbw
  go_wp2_with fail
  ((with_reducible refine (C3.out _).mono ?_); rintro e w' ⟨rfl, hbw⟩)
  obtain ⟨m3, rfl⟩ := grow_mk hbw
  clear hbw
  go_wp2_with fail
  go_ret
  exact ⟨ret_bool (by simp), below_grow (below_grow (below_grow ((below_box _ _).alloc (by simp) _) _) _) _⟩

set_option maxRecDepth 100000 in
theorem ratCmps_lifted (os : Os) (started : os.Started) (H : Type) (enc : TypeId × Value → H) :
    ReturnsInHanded {} Try.checked os 4 .any (Rows.ratCmpsSpec.pre6 enc Try.prog Try.f4 Rows.ratCmpsRow.domain false) (Rows.ratCmpsSpec.post enc Try.prog Try.f4 false true false false) := by
  refine returnsInHanded_of_change (C := Try.checked) Try.own started (by kernel_rfl) Try.func4
    (ChangeSpec.witness6 (enc := enc) (C := Try.checked) false ⟨#[], #[.agg #[.int .i64 0, .int .i64 0], .agg #[.int .i64 0, .int .i64 0]], []⟩ 8 (by kernel_rfl) (by kernel_rfl) (by kernel_rfl) (by kernel_rfl)) ?_
  intro W base args ds gs before hval0 hW hcnd _
  have hval : ∀ (j : Nat) t v, Try.f4.params[j]? = some t → args[j]? = some v → Value.okWide Try.prog W .any base t v := hval0
  have hW' := hW
  obtain ⟨p, q, hA0, hV, rfl, hfz, hnd⟩ := hW
  have hA : DataW.TrodAll enc Try.prog W 0 (fun _ => true) true Try.f4.params.toList args.toList ds p := hA0
  rw [Try.params4] at hA hval
  obtain ⟨v0, v1, d0, d1, p0, p1, rfl, rfl, rfl, h0, h1⟩ := trodAll_two hA
  obtain ⟨rfl, rfl⟩ := trodVars_none hV
  obtain ⟨a, rfl, rfl, rfl, wa⟩ := open_rat (hval 0 23 v0 rfl rfl) h0
  obtain ⟨b, rfl, rfl, rfl, wb⟩ := open_rat (hval 1 23 v1 rfl rfl) h1
  refine (law_ratCmps a b W wa wb).mono fun e W' ⟨he, hb⟩ => ?_
  subst he
  exact ⟨_, rfl, law_post Try.laidOut Try.underlying4 rfl (by kernel_rfl) rfl (by rw [Try.params4]; decide +kernel) hW' hb⟩

theorem ratCmps_holds : Rows.RatCmpsSaid :=
  OpenClaim.holds_of_wide 4 Try.f4 rfl rfl rfl rfl rfl rfl rfl ⟨rfl, rfl, rfl, rfl, rfl⟩ rfl rfl rfl rfl rfl (by kernel_rfl) Try.func4 (by kernel_rfl)
    (of_decide_eq_true (by kernel_rfl)) (by unfold Func.isWrapper; first | (rw [if_pos (by decide +kernel)]; kernel_rfl) | (rw [if_neg (by decide +kernel)]; exact ⟨rfl, rfl⟩))
    (fun os started H enc _ => ratCmps_lifted os started H enc)
#print axioms ratCmps_holds

end Go.Proofs.Ytgjhaanpkfheeaa
