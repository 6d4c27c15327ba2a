/- CondCmps: any comparison of any two fractions is told alike by the program and the reference. No condition. -/
import Derived.Test.YtgjhaanpkfheeaaCondA
import Derived.Test.YtgjhaanpkfheeaaLiftB
namespace Go.Proofs.Ytgjhaanpkfheeaa
set_option linter.unusedVariables false
set_option linter.unusedSimpArgs false
open Go.ChangeShapes Go.WideShapes Go.ChangeAt Go.RowKit

theorem cmp_halves : cmpT 2 (cmpR (1, 2) (1, 2)) (sureB (1, 2) && sureB (1, 2)) = 2 := by decide

set_option maxHeartbeats 1000000 in
theorem law_condCmps (op : Int) (a b : Rt) (w : World) (h1 : -9223372036854775808 ≤ op) (h2 : op ≤ 9223372036854775807) (ha : Is64 a) (hb : Is64 b) :
    Calls Try.prog 7 #[.int .i64 op, rv a, rv b] w fun e w' => e = .returned (.bool true) ∧ Below w.heap.size w w' := by
  have c1 := fun w => ccmp_any op a b w h1 h2 ha hb
  have c2 := fun w => rccmp_any op a b w h1 h2 ha hb
  have c3 := fun w => ccmp_any 2 (1, 2) (1, 2) w (by decide) (by decide) ⟨by decide, by decide, by decide, by decide⟩ ⟨by decide, by decide, by decide, by decide⟩
  rw [cmp_halves] at c3
  generalize cmpT op (cmpR a b) (sureB a && sureB b) = c at *
  obtain ⟨n, d⟩ := a; obtain ⟨p, q⟩ := b
  have C1 := Lib.hid c1; have C2 := Lib.hid c2; have C3 := Lib.hid c3
  clear c1 c2 c3
  go_enter Try.func7, Try.ntmps7
  go_wp2_with fail
  refine wp_region_grow (by kernel_rfl) (by kernel_rfl) ?_
  repeat (go_big_quiet_step ((first | (go_at_call 32; with_reducible exact calls_grow (C1.out _)) | (go_at_call 32; with_reducible exact calls_grow (C3.out _)) | (go_at_call 33; with_reducible exact calls_grow (C2.out _)))))
  refine wpQuiet_nil ?_
  rintro _ ⟨m, rfl⟩
  go_wp2_with fail
  go_ret
  exact ⟨ret_bool (by simp), below_grow ((below_box _ _).alloc (by simp) _) _⟩

theorem int_of_wf {n : Int} (h1 : (Lit.int .i64 n).wf = true) : -9223372036854775808 ≤ n ∧ n ≤ 9223372036854775807 := by
  simp [Lit.wf, IntKind.min, IntKind.max, IntKind.signed, IntKind.bits] at h1
  exact ⟨by omega, by omega⟩

set_option maxRecDepth 100000 in
theorem condCmps_lifted (os : Os) (started : os.Started) (H : Type) (enc : TypeId × Value → H) :
    ReturnsInHanded {} Try.checked os 7 .any (Rows.condCmpsSpec.pre6 enc Try.prog Try.f7 Rows.condCmpsRow.domain false) (Rows.condCmpsSpec.post enc Try.prog Try.f7 false true false false) := by
  refine returnsInHanded_of_change (C := Try.checked) Try.own started (by kernel_rfl) Try.func7
    (ChangeSpec.witness6 (enc := enc) (C := Try.checked) false ⟨#[], #[.int .i64 0, .agg #[.int .i64 0, .int .i64 0], .agg #[.int .i64 0, .int .i64 0]], []⟩ 8 (by kernel_rfl) (by kernel_rfl) (by kernel_rfl) (by kernel_rfl)) ?_
  intro W base args ds gs before hval0 hW hcnd _
  have hval : ∀ (j : Nat) t v, Try.f7.params[j]? = some t → args[j]? = some v → Value.okWide Try.prog W .any base t v := hval0
  have hW' := hW
  obtain ⟨p, q, hA0, hV, rfl, hfz, hnd⟩ := hW
  have hA : DataW.TrodAll enc Try.prog W 0 (fun _ => true) true Try.f7.params.toList args.toList ds p := hA0
  rw [Try.params7] at hA hval
  obtain ⟨v0, v1, v2, d0, d1, d2, p0, p1, p2, rfl, rfl, rfl, h0, h1, h2⟩ := trodAll_three hA
  obtain ⟨rfl, rfl⟩ := trodVars_none hV
  obtain ⟨x, rfl, rfl, rfl, wx⟩ := open_int Try.underlying3 (hval 0 3 v0 rfl rfl) h0
  obtain ⟨a, rfl, rfl, rfl, wa⟩ := open_rat (hval 1 23 v1 rfl rfl) h1
  obtain ⟨b, rfl, rfl, rfl, wb⟩ := open_rat (hval 2 23 v2 rfl rfl) h2
  refine (law_condCmps x a b W (int_of_wf wx).1 (int_of_wf wx).2 wa wb).mono fun e W' ⟨he, hb⟩ => ?_
  subst he
  exact ⟨_, rfl, law_post Try.laidOut Try.underlying4 rfl (by kernel_rfl) rfl (by rw [Try.params7]; decide +kernel) hW' hb⟩

theorem condCmps_holds : Rows.CondCmpsSaid :=
  OpenClaim.holds_of_wide 7 Try.f7 rfl rfl rfl rfl rfl rfl rfl ⟨rfl, rfl, rfl, rfl, rfl⟩ rfl rfl rfl rfl rfl (by kernel_rfl) Try.func7 (by kernel_rfl)
    (of_decide_eq_true (by kernel_rfl)) (by unfold Func.isWrapper; first | (rw [if_pos (by decide +kernel)]; kernel_rfl) | (rw [if_neg (by decide +kernel)]; exact ⟨rfl, rfl⟩))
    (fun os started H enc _ => condCmps_lifted os started H enc)
#print axioms condCmps_holds

end Go.Proofs.Ytgjhaanpkfheeaa
