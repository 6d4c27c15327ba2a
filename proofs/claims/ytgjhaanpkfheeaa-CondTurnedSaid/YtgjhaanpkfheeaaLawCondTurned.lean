/- CondTurned: a comparison, turned, is that of the two changed about; at most is less or the same; at least is not less. No condition. -/
import Derived.Test.YtgjhaanpkfheeaaCondA
import Derived.Test.YtgjhaanpkfheeaaTruths
import Derived.Test.YtgjhaanpkfheeaaLiftB
namespace Go.Proofs.Ytgjhaanpkfheeaa
set_option linter.unusedVariables false
set_option linter.unusedSimpArgs false
open Go.ChangeShapes Go.WideShapes Go.ChangeAt Go.RowKit

theorem cmpI_turn (a b : Rt) : cmpI b a = -cmpI a b := by
  unfold cmpI
  by_cases h1 : a.1 * b.2 < b.1 * a.2
  · have h2 : ¬ b.1 * a.2 < a.1 * b.2 := by omega
    simp only [h1, h2, if_true, if_false]; rfl
  · by_cases h2 : b.1 * a.2 < a.1 * b.2
    · simp only [h1, h2, if_true, if_false]
    · simp only [h1, h2, if_false]; rfl

theorem four (a b : Rt) : ((sureB a && sureB b) = false ∧ (sureB b && sureB a) = false ∧ cmpR a b = 0 ∧ cmpR b a = 0) ∨
    ((sureB a && sureB b) = true ∧ (sureB b && sureB a) = true ∧ ((cmpR a b = -1 ∧ cmpR b a = 1) ∨ (cmpR a b = 0 ∧ cmpR b a = 0) ∨ (cmpR a b = 1 ∧ cmpR b a = -1))) := by
  have h3 := cmpR_three a b
  unfold cmpR at h3 ⊢
  rw [Bool.and_comm (sureB b) (sureB a)]
  generalize (sureB a && sureB b) = s at *
  cases s with
  | false => exact Or.inl ⟨rfl, rfl, rfl, rfl⟩
  | true =>
    right
    simp only [if_true] at h3 ⊢
    have := cmpI_turn a b
    exact ⟨trivial, trivial, by omega⟩

theorem below_more {w w1 : World} (h : Below w.heap.size w w1) (o : Obj) : Below w.heap.size w (w1.alloc o) := h.alloc h.size o

set_option maxHeartbeats 4000000 in
theorem law_condTurned (a b : Rt) (w : World) (ha : Is64 a) (hb : Is64 b) :
    Calls Try.prog 15 #[rv a, rv b] w fun e w' => e = .returned (.bool true) ∧ Below w.heap.size w w' := by
  have c1 := fun w => ccmp_any 1 a b w (by decide) (by decide) ha hb
  have c2 := fun w => ccmp_any 2 a b w (by decide) (by decide) ha hb
  have c3 := fun w => ccmp_any 3 a b w (by decide) (by decide) ha hb
  have c4 := fun w => ccmp_any 4 a b w (by decide) (by decide) ha hb
  have c5 := fun w => ccmp_any 5 a b w (by decide) (by decide) ha hb
  have d5 := fun w => ccmp_any 5 b a w (by decide) (by decide) hb ha
  have d4 := fun w => ccmp_any 4 b a w (by decide) (by decide) hb ha
  have d3 := fun w => ccmp_any 3 b a w (by decide) (by decide) hb ha
  have hf := four a b
  have HO := Lib.hid (fun W k h x y hx hy => or2_any W 3 k h (x := x) (y := y) hx hy)
  have HN := Lib.hid (show ∀ w (x : Int), In64 x → Calls Try.prog 40 #[.int .i64 x] w fun e w' => e = .returned (.int .i64 (nF x)) ∧ w = w' from fun w x hx => not_any x w hx.1 hx.2)
  have HW := Lib.hid (fun w => awakeC_any w)
  rcases hf with ⟨k1, k2, k3, k4⟩ | ⟨k1, k2, ⟨k3, k4⟩ | ⟨k3, k4⟩ | ⟨k3, k4⟩⟩
  · rw [k1, k3] at c1 c2 c3 c4 c5
    rw [k2, k4] at d3 d4 d5
    rw [show cmpT 1 0 false = 1 by decide] at c1
    rw [show cmpT 2 0 false = 1 by decide] at c2
    rw [show cmpT 3 0 false = 1 by decide] at c3
    rw [show cmpT 4 0 false = 1 by decide] at c4
    rw [show cmpT 5 0 false = 1 by decide] at c5
    rw [show cmpT 5 0 false = 1 by decide] at d5
    rw [show cmpT 4 0 false = 1 by decide] at d4
    rw [show cmpT 3 0 false = 1 by decide] at d3
    have HO2 := Lib.hid (fun W k h => HO.out W k h 1 1 (in64_lit (by decide)) (in64_lit (by decide)))
    rw [show oF2 1 1 = 1 by decide] at HO2
    have HN1 := Lib.hid (fun w => HN.out w 1 (in64_lit (by decide)))
    rw [show nF 1 = 1 by decide] at HN1
    have HN2 := Lib.hid (fun w => HN.out w 1 (in64_lit (by decide)))
    rw [show nF 1 = 1 by decide] at HN2
    have C1 := Lib.hid c1; have C2 := Lib.hid c2; have C3 := Lib.hid c3; have C4 := Lib.hid c4; have C5 := Lib.hid c5
    have D3 := Lib.hid d3; have D4 := Lib.hid d4; have D5 := Lib.hid d5
    clear c1 c2 c3 c4 c5 d3 d4 d5 HO HN k1 k2 k3 k4
    obtain ⟨n, d⟩ := a; obtain ⟨p, q⟩ := b
    go_enter Try.func15, Try.ntmps15
    go_wp2_with fail
    refine wp_region_grow (by kernel_rfl) (by kernel_rfl) ?_
    repeat (go_big_quiet_step ((first | (go_at_call 32; with_reducible exact calls_grow (C1.out _)) | (go_at_call 32; with_reducible exact calls_grow (C2.out _)) | (go_at_call 32; with_reducible exact calls_grow (C3.out _)) | (go_at_call 32; with_reducible exact calls_grow (C4.out _)) | (go_at_call 32; with_reducible exact calls_grow (C5.out _)))))
    refine wpQuiet_nil ?_
    rintro _ ⟨m, rfl⟩
    go_wp2_with fail
    ((with_reducible refine (D5.out _).mono ?_); rintro e w' ⟨rfl, hbw⟩)
    obtain ⟨m1, rfl⟩ := grow_mk hbw
    clear hbw
    go_wp2_with fail
    ((with_reducible refine (D4.out _).mono ?_); rintro e w' ⟨rfl, hbw⟩)
    obtain ⟨m2, rfl⟩ := grow_mk hbw
    clear hbw
    go_wp2_with fail
    ((with_reducible refine (D3.out _).mono ?_); rintro e w' ⟨rfl, hbw⟩)
    obtain ⟨m3, rfl⟩ := grow_mk hbw
    clear hbw
    go_wp2_with fail
    ((with_reducible refine (HO2.out _ _ rfl).mono ?_); rintro e w' ⟨rfl, hbw⟩)
    obtain ⟨m4, rfl⟩ := grow_mk hbw
    clear hbw
    go_wp2_with fail
    ((with_reducible refine (HN1.out _).mono ?_); rintro e w' ⟨rfl, rfl⟩)
    go_wp2_with fail
    ((with_reducible refine (HN2.out _).mono ?_); rintro e w' ⟨rfl, rfl⟩)
    go_wp2_with fail
    ((with_reducible refine (HW.out _).mono ?_); rintro e w' ⟨rfl, hbw⟩)
    obtain ⟨m5, rfl⟩ := grow_mk hbw
    clear hbw
    go_wp2_with fail
    go_ret
    exact ⟨rfl, by repeat first | exact Below.refl _ _ | refine below_grow ?_ _ | refine below_more ?_ _⟩
  · rw [k1, k3] at c1 c2 c3 c4 c5
    rw [k2, k4] at d3 d4 d5
    rw [show cmpT 1 (-1) true = 2 by decide] at c1
    rw [show cmpT 2 (-1) true = 2 by decide] at c2
    rw [show cmpT 3 (-1) true = 0 by decide] at c3
    rw [show cmpT 4 (-1) true = 0 by decide] at c4
    rw [show cmpT 5 (-1) true = 0 by decide] at c5
    rw [show cmpT 5 1 true = 2 by decide] at d5
    rw [show cmpT 4 1 true = 2 by decide] at d4
    rw [show cmpT 3 1 true = 0 by decide] at d3
    have HO2 := Lib.hid (fun W k h => HO.out W k h 2 0 (in64_lit (by decide)) (in64_lit (by decide)))
    rw [show oF2 2 0 = 2 by decide] at HO2
    have HN1 := Lib.hid (fun w => HN.out w 2 (in64_lit (by decide)))
    rw [show nF 2 = 0 by decide] at HN1
    have HN2 := Lib.hid (fun w => HN.out w 2 (in64_lit (by decide)))
    rw [show nF 2 = 0 by decide] at HN2
    have C1 := Lib.hid c1; have C2 := Lib.hid c2; have C3 := Lib.hid c3; have C4 := Lib.hid c4; have C5 := Lib.hid c5
    have D3 := Lib.hid d3; have D4 := Lib.hid d4; have D5 := Lib.hid d5
    clear c1 c2 c3 c4 c5 d3 d4 d5 HO HN k1 k2 k3 k4
    obtain ⟨n, d⟩ := a; obtain ⟨p, q⟩ := b
    go_enter Try.func15, Try.ntmps15
    go_wp2_with fail
    refine wp_region_grow (by kernel_rfl) (by kernel_rfl) ?_
    repeat (go_big_quiet_step ((first | (go_at_call 32; with_reducible exact calls_grow (C1.out _)) | (go_at_call 32; with_reducible exact calls_grow (C2.out _)) | (go_at_call 32; with_reducible exact calls_grow (C3.out _)) | (go_at_call 32; with_reducible exact calls_grow (C4.out _)) | (go_at_call 32; with_reducible exact calls_grow (C5.out _)))))
    refine wpQuiet_nil ?_
    rintro _ ⟨m, rfl⟩
    go_wp2_with fail
    ((with_reducible refine (D5.out _).mono ?_); rintro e w' ⟨rfl, hbw⟩)
    obtain ⟨m1, rfl⟩ := grow_mk hbw
    clear hbw
    go_wp2_with fail
    ((with_reducible refine (D4.out _).mono ?_); rintro e w' ⟨rfl, hbw⟩)
    obtain ⟨m2, rfl⟩ := grow_mk hbw
    clear hbw
    go_wp2_with fail
    ((with_reducible refine (D3.out _).mono ?_); rintro e w' ⟨rfl, hbw⟩)
    obtain ⟨m3, rfl⟩ := grow_mk hbw
    clear hbw
    go_wp2_with fail
    ((with_reducible refine (HO2.out _ _ rfl).mono ?_); rintro e w' ⟨rfl, hbw⟩)
    obtain ⟨m4, rfl⟩ := grow_mk hbw
    clear hbw
    go_wp2_with fail
    ((with_reducible refine (HN1.out _).mono ?_); rintro e w' ⟨rfl, rfl⟩)
    go_wp2_with fail
    ((with_reducible refine (HN2.out _).mono ?_); rintro e w' ⟨rfl, rfl⟩)
    go_wp2_with fail
    ((with_reducible refine (HW.out _).mono ?_); rintro e w' ⟨rfl, hbw⟩)
    obtain ⟨m5, rfl⟩ := grow_mk hbw
    clear hbw
    go_wp2_with fail
    go_ret
    exact ⟨rfl, by repeat first | exact Below.refl _ _ | refine below_grow ?_ _ | refine below_more ?_ _⟩
  · rw [k1, k3] at c1 c2 c3 c4 c5
    rw [k2, k4] at d3 d4 d5
    rw [show cmpT 1 0 true = 0 by decide] at c1
    rw [show cmpT 2 0 true = 2 by decide] at c2
    rw [show cmpT 3 0 true = 2 by decide] at c3
    rw [show cmpT 4 0 true = 2 by decide] at c4
    rw [show cmpT 5 0 true = 0 by decide] at c5
    rw [show cmpT 5 0 true = 0 by decide] at d5
    rw [show cmpT 4 0 true = 2 by decide] at d4
    rw [show cmpT 3 0 true = 2 by decide] at d3
    have HO2 := Lib.hid (fun W k h => HO.out W k h 0 2 (in64_lit (by decide)) (in64_lit (by decide)))
    rw [show oF2 0 2 = 2 by decide] at HO2
    have HN1 := Lib.hid (fun w => HN.out w 0 (in64_lit (by decide)))
    rw [show nF 0 = 2 by decide] at HN1
    have HN2 := Lib.hid (fun w => HN.out w 2 (in64_lit (by decide)))
    rw [show nF 2 = 0 by decide] at HN2
    have C1 := Lib.hid c1; have C2 := Lib.hid c2; have C3 := Lib.hid c3; have C4 := Lib.hid c4; have C5 := Lib.hid c5
    have D3 := Lib.hid d3; have D4 := Lib.hid d4; have D5 := Lib.hid d5
    clear c1 c2 c3 c4 c5 d3 d4 d5 HO HN k1 k2 k3 k4
    obtain ⟨n, d⟩ := a; obtain ⟨p, q⟩ := b
    go_enter Try.func15, Try.ntmps15
    go_wp2_with fail
    refine wp_region_grow (by kernel_rfl) (by kernel_rfl) ?_
    repeat (go_big_quiet_step ((first | (go_at_call 32; with_reducible exact calls_grow (C1.out _)) | (go_at_call 32; with_reducible exact calls_grow (C2.out _)) | (go_at_call 32; with_reducible exact calls_grow (C3.out _)) | (go_at_call 32; with_reducible exact calls_grow (C4.out _)) | (go_at_call 32; with_reducible exact calls_grow (C5.out _)))))
    refine wpQuiet_nil ?_
    rintro _ ⟨m, rfl⟩
    go_wp2_with fail
    ((with_reducible refine (D5.out _).mono ?_); rintro e w' ⟨rfl, hbw⟩)
    obtain ⟨m1, rfl⟩ := grow_mk hbw
    clear hbw
    go_wp2_with fail
    ((with_reducible refine (D4.out _).mono ?_); rintro e w' ⟨rfl, hbw⟩)
    obtain ⟨m2, rfl⟩ := grow_mk hbw
    clear hbw
    go_wp2_with fail
    ((with_reducible refine (D3.out _).mono ?_); rintro e w' ⟨rfl, hbw⟩)
    obtain ⟨m3, rfl⟩ := grow_mk hbw
    clear hbw
    go_wp2_with fail
    ((with_reducible refine (HO2.out _ _ rfl).mono ?_); rintro e w' ⟨rfl, hbw⟩)
    obtain ⟨m4, rfl⟩ := grow_mk hbw
    clear hbw
    go_wp2_with fail
    ((with_reducible refine (HN1.out _).mono ?_); rintro e w' ⟨rfl, rfl⟩)
    go_wp2_with fail
    ((with_reducible refine (HN2.out _).mono ?_); rintro e w' ⟨rfl, rfl⟩)
    go_wp2_with fail
    ((with_reducible refine (HW.out _).mono ?_); rintro e w' ⟨rfl, hbw⟩)
    obtain ⟨m5, rfl⟩ := grow_mk hbw
    clear hbw
    go_wp2_with fail
    go_ret
    exact ⟨rfl, by repeat first | exact Below.refl _ _ | refine below_grow ?_ _ | refine below_more ?_ _⟩
  · rw [k1, k3] at c1 c2 c3 c4 c5
    rw [k2, k4] at d3 d4 d5
    rw [show cmpT 1 1 true = 0 by decide] at c1
    rw [show cmpT 2 1 true = 0 by decide] at c2
    rw [show cmpT 3 1 true = 0 by decide] at c3
    rw [show cmpT 4 1 true = 2 by decide] at c4
    rw [show cmpT 5 1 true = 2 by decide] at c5
    rw [show cmpT 5 (-1) true = 0 by decide] at d5
    rw [show cmpT 4 (-1) true = 0 by decide] at d4
    rw [show cmpT 3 (-1) true = 0 by decide] at d3
    have HO2 := Lib.hid (fun W k h => HO.out W k h 0 0 (in64_lit (by decide)) (in64_lit (by decide)))
    rw [show oF2 0 0 = 0 by decide] at HO2
    have HN1 := Lib.hid (fun w => HN.out w 0 (in64_lit (by decide)))
    rw [show nF 0 = 2 by decide] at HN1
    have HN2 := Lib.hid (fun w => HN.out w 0 (in64_lit (by decide)))
    rw [show nF 0 = 2 by decide] at HN2
    have C1 := Lib.hid c1; have C2 := Lib.hid c2; have C3 := Lib.hid c3; have C4 := Lib.hid c4; have C5 := Lib.hid c5
    have D3 := Lib.hid d3; have D4 := Lib.hid d4; have D5 := Lib.hid d5
    clear c1 c2 c3 c4 c5 d3 d4 d5 HO HN k1 k2 k3 k4
    obtain ⟨n, d⟩ := a; obtain ⟨p, q⟩ := b
    go_enter Try.func15, Try.ntmps15
    go_wp2_with fail
    refine wp_region_grow (by kernel_rfl) (by kernel_rfl) ?_
    repeat (go_big_quiet_step ((first | (go_at_call 32; with_reducible exact calls_grow (C1.out _)) | (go_at_call 32; with_reducible exact calls_grow (C2.out _)) | (go_at_call 32; with_reducible exact calls_grow (C3.out _)) | (go_at_call 32; with_reducible exact calls_grow (C4.out _)) | (go_at_call 32; with_reducible exact calls_grow (C5.out _)))))
    refine wpQuiet_nil ?_
    rintro _ ⟨m, rfl⟩
    go_wp2_with fail
    ((with_reducible refine (D5.out _).mono ?_); rintro e w' ⟨rfl, hbw⟩)
    obtain ⟨m1, rfl⟩ := grow_mk hbw
    clear hbw
    go_wp2_with fail
    ((with_reducible refine (D4.out _).mono ?_); rintro e w' ⟨rfl, hbw⟩)
    obtain ⟨m2, rfl⟩ := grow_mk hbw
    clear hbw
    go_wp2_with fail
    ((with_reducible refine (D3.out _).mono ?_); rintro e w' ⟨rfl, hbw⟩)
    obtain ⟨m3, rfl⟩ := grow_mk hbw
    clear hbw
    go_wp2_with fail
    ((with_reducible refine (HO2.out _ _ rfl).mono ?_); rintro e w' ⟨rfl, hbw⟩)
    obtain ⟨m4, rfl⟩ := grow_mk hbw
    clear hbw
    go_wp2_with fail
    ((with_reducible refine (HN1.out _).mono ?_); rintro e w' ⟨rfl, rfl⟩)
    go_wp2_with fail
    ((with_reducible refine (HN2.out _).mono ?_); rintro e w' ⟨rfl, rfl⟩)
    go_wp2_with fail
    ((with_reducible refine (HW.out _).mono ?_); rintro e w' ⟨rfl, hbw⟩)
    obtain ⟨m5, rfl⟩ := grow_mk hbw
    clear hbw
    go_wp2_with fail
    go_ret
    exact ⟨rfl, by repeat first | exact Below.refl _ _ | refine below_grow ?_ _ | refine below_more ?_ _⟩

set_option maxRecDepth 100000 in
theorem condTurned_lifted (os : Os) (started : os.Started) (H : Type) (enc : TypeId × Value → H) :
    ReturnsInHanded {} Try.checked os 15 .any (Rows.condTurnedSpec.pre6 enc Try.prog Try.f15 Rows.condTurnedRow.domain false) (Rows.condTurnedSpec.post enc Try.prog Try.f15 false true false false) := by
  refine returnsInHanded_of_change (C := Try.checked) Try.own started (by kernel_rfl) Try.func15
    (ChangeSpec.witness6 (enc := enc) (C := Try.checked) false ⟨#[], #[.agg #[.int .i64 0, .int .i64 0], .agg #[.int .i64 0, .int .i64 0]], []⟩ 8 (by kernel_rfl) (by kernel_rfl) (by kernel_rfl) (by kernel_rfl)) ?_
  intro W base args ds gs before hval0 hW hcnd _
  have hval : ∀ (j : Nat) t v, Try.f15.params[j]? = some t → args[j]? = some v → Value.okWide Try.prog W .any base t v := hval0
  have hW' := hW
  obtain ⟨p, q, hA0, hV, rfl, hfz, hnd⟩ := hW
  have hA : DataW.TrodAll enc Try.prog W 0 (fun _ => true) true Try.f15.params.toList args.toList ds p := hA0
  rw [Try.params15] at hA hval
  obtain ⟨v0, v1, d0, d1, p0, p1, rfl, rfl, rfl, h0, h1⟩ := trodAll_two hA
  obtain ⟨rfl, rfl⟩ := trodVars_none hV
  obtain ⟨a, rfl, rfl, rfl, wa⟩ := open_rat (hval 0 23 v0 rfl rfl) h0
  obtain ⟨b, rfl, rfl, rfl, wb⟩ := open_rat (hval 1 23 v1 rfl rfl) h1
  refine (law_condTurned a b W wa wb).mono fun e W' ⟨he, hb⟩ => ?_
  subst he
  exact ⟨_, rfl, law_post Try.laidOut Try.underlying4 rfl (by kernel_rfl) rfl (by rw [Try.params15]; decide +kernel) hW' hb⟩

theorem condTurned_holds : Rows.CondTurnedSaid :=
  OpenClaim.holds_of_wide 15 Try.f15 rfl rfl rfl rfl rfl rfl rfl ⟨rfl, rfl, rfl, rfl, rfl⟩ rfl rfl rfl rfl rfl (by kernel_rfl) Try.func15 (by kernel_rfl)
    (of_decide_eq_true (by kernel_rfl)) (by unfold Func.isWrapper; first | (rw [if_pos (by decide +kernel)]; kernel_rfl) | (rw [if_neg (by decide +kernel)]; exact ⟨rfl, rfl⟩))
    (fun os started H enc _ => condTurned_lifted os started H enc)
#print axioms condTurned_holds

end Go.Proofs.Ytgjhaanpkfheeaa
