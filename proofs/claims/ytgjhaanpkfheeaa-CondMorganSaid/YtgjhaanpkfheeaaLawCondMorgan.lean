/- CondMorgan: De Morgan's laws, each of and and or over the other, and their orders, hold of the program's and, or, not. No condition. -/
import Derived.Test.YtgjhaanpkfheeaaTruths
import Derived.Test.YtgjhaanpkfheeaaLiftD
namespace Go.Proofs.Ytgjhaanpkfheeaa
set_option linter.unusedVariables false
set_option linter.unusedSimpArgs false
open Go.ChangeShapes Go.WideShapes Go.ChangeAt Go.RowKit

set_option maxHeartbeats 4000000 in
theorem law_condMorgan (x y z : Int) (w : World) (hx : In64 x) (hy : In64 y) (hz : In64 z) :
    Calls Try.prog 10 #[.int .i64 x, .int .i64 y, .int .i64 z] w fun e w' => e = .returned (.bool true) ∧ Below w.heap.size w w' := by
  have HA := Lib.hid (fun W k h x y hx hy => and2_any W 3 k h (x := x) (y := y) hx hy)
  have HO := Lib.hid (fun W k h x y hx hy => or2_any W 3 k h (x := x) (y := y) hx hy)
  have HA1 := Lib.hid (fun W k h x hx => and1_any W 3 k h (x := x) hx)
  have HA3 := Lib.hid (fun W k h x y z hx hy hz => and3_any W 3 k h (x := x) (y := y) (z := z) hx hy hz)
  have HO3 := Lib.hid (fun W k h x y z hx hy hz => or3_any W 3 k h (x := x) (y := y) (z := z) hx hy hz)
  have HN := Lib.hid (show ∀ w (x : Int), In64 x → Calls Try.prog 40 #[.int .i64 x] w fun e w' => e = .returned (.int .i64 (nF x)) ∧ w = w' from fun w x hx => not_any x w hx.1 hx.2)
  have HW := Lib.hid (fun w => awakeC_any w)
  have b1 := beq_of (m1 x y); have n1 := bne_of (m1 x y)
  have b2 := beq_of (m2 x y); have n2 := bne_of (m2 x y)
  have b3 := beq_of (m3 x); have n3 := bne_of (m3 x)
  have b4 := beq_of (m4 x y); have n4 := bne_of (m4 x y)
  have b5 := beq_of (m5 x y); have n5 := bne_of (m5 x y)
  have b6 := beq_of (m6 x y z); have n6 := bne_of (m6 x y z)
  have b7 := beq_of (m7 x y z); have n7 := bne_of (m7 x y z)
  have b8 := beq_of (m8 x y z)
  have b9 := beq_of (m9 x y z)
  have hb := Below.refl w.heap.size w
  go_enter Try.func10, Try.ntmps10
  go_wp2_with fail
  ((with_reducible refine (HA.out _ _ rfl _ _ (by first | assumption | exact aF2_in _ _ | exact oF2_in _ _ | exact nF_in _) (by first | assumption | exact aF2_in _ _ | exact oF2_in _ _ | exact nF_in _)).mono ?_); rintro e w' ⟨rfl, hbw⟩)
  obtain ⟨m, rfl⟩ := grow_mk hbw
  clear hbw
  replace hb := below_grow (hb.alloc hb.size _) m
  generalize grow _ m = wx at hb ⊢
  clear m
  go_wp2_with fail
  ((with_reducible refine (HN.out _ _ (by first | assumption | exact aF2_in _ _ | exact oF2_in _ _ | exact nF_in _)).mono ?_); rintro e w' ⟨rfl, rfl⟩)
  go_wp2_with fail
  ((with_reducible refine (HN.out _ _ (by first | assumption | exact aF2_in _ _ | exact oF2_in _ _ | exact nF_in _)).mono ?_); rintro e w' ⟨rfl, rfl⟩)
  go_wp2_with fail
  ((with_reducible refine (HN.out _ _ (by first | assumption | exact aF2_in _ _ | exact oF2_in _ _ | exact nF_in _)).mono ?_); rintro e w' ⟨rfl, rfl⟩)
  go_wp2_with fail
  ((with_reducible refine (HO.out _ _ rfl _ _ (by first | assumption | exact aF2_in _ _ | exact oF2_in _ _ | exact nF_in _) (by first | assumption | exact aF2_in _ _ | exact oF2_in _ _ | exact nF_in _)).mono ?_); rintro e w' ⟨rfl, hbw⟩)
  obtain ⟨m, rfl⟩ := grow_mk hbw
  clear hbw
  replace hb := below_grow (hb.alloc hb.size _) m
  generalize grow _ m = wx at hb ⊢
  clear m
  go_wp2_with fail
  ((with_reducible refine (HO.out _ _ rfl _ _ (by first | assumption | exact aF2_in _ _ | exact oF2_in _ _ | exact nF_in _) (by first | assumption | exact aF2_in _ _ | exact oF2_in _ _ | exact nF_in _)).mono ?_); rintro e w' ⟨rfl, hbw⟩)
  obtain ⟨m, rfl⟩ := grow_mk hbw
  clear hbw
  replace hb := below_grow (hb.alloc hb.size _) m
  generalize grow _ m = wx at hb ⊢
  clear m
  go_wp2_with fail
  ((with_reducible refine (HN.out _ _ (by first | assumption | exact aF2_in _ _ | exact oF2_in _ _ | exact nF_in _)).mono ?_); rintro e w' ⟨rfl, rfl⟩)
  go_wp2_with fail
  ((with_reducible refine (HN.out _ _ (by first | assumption | exact aF2_in _ _ | exact oF2_in _ _ | exact nF_in _)).mono ?_); rintro e w' ⟨rfl, rfl⟩)
  go_wp2_with fail
  ((with_reducible refine (HN.out _ _ (by first | assumption | exact aF2_in _ _ | exact oF2_in _ _ | exact nF_in _)).mono ?_); rintro e w' ⟨rfl, rfl⟩)
  go_wp2_with fail
  ((with_reducible refine (HA.out _ _ rfl _ _ (by first | assumption | exact aF2_in _ _ | exact oF2_in _ _ | exact nF_in _) (by first | assumption | exact aF2_in _ _ | exact oF2_in _ _ | exact nF_in _)).mono ?_); rintro e w' ⟨rfl, hbw⟩)
  obtain ⟨m, rfl⟩ := grow_mk hbw
  clear hbw
  replace hb := below_grow (hb.alloc hb.size _) m
  generalize grow _ m = wx at hb ⊢
  clear m
  go_wp2_with fail
  ((with_reducible refine (HN.out _ _ (by first | assumption | exact aF2_in _ _ | exact oF2_in _ _ | exact nF_in _)).mono ?_); rintro e w' ⟨rfl, rfl⟩)
  go_wp2_with fail
  ((with_reducible refine (HN.out _ _ (by first | assumption | exact aF2_in _ _ | exact oF2_in _ _ | exact nF_in _)).mono ?_); rintro e w' ⟨rfl, rfl⟩)
  go_wp2_with fail
  ((with_reducible refine (HA1.out _ _ rfl _ (by first | assumption | exact aF2_in _ _ | exact oF2_in _ _ | exact nF_in _)).mono ?_); rintro e w' ⟨rfl, hbw⟩)
  obtain ⟨m, rfl⟩ := grow_mk hbw
  clear hbw
  replace hb := below_grow (hb.alloc hb.size _) m
  generalize grow _ m = wx at hb ⊢
  clear m
  go_wp2_with fail
  ((with_reducible refine (HA.out _ _ rfl _ _ (by first | assumption | exact aF2_in _ _ | exact oF2_in _ _ | exact nF_in _) (by first | assumption | exact aF2_in _ _ | exact oF2_in _ _ | exact nF_in _)).mono ?_); rintro e w' ⟨rfl, hbw⟩)
  obtain ⟨m, rfl⟩ := grow_mk hbw
  clear hbw
  replace hb := below_grow (hb.alloc hb.size _) m
  generalize grow _ m = wx at hb ⊢
  clear m
  go_wp2_with fail
  ((with_reducible refine (HA.out _ _ rfl _ _ (by first | assumption | exact aF2_in _ _ | exact oF2_in _ _ | exact nF_in _) (by first | assumption | exact aF2_in _ _ | exact oF2_in _ _ | exact nF_in _)).mono ?_); rintro e w' ⟨rfl, hbw⟩)
  obtain ⟨m, rfl⟩ := grow_mk hbw
  clear hbw
  replace hb := below_grow (hb.alloc hb.size _) m
  generalize grow _ m = wx at hb ⊢
  clear m
  go_wp2_with fail
  ((with_reducible refine (HO.out _ _ rfl _ _ (by first | assumption | exact aF2_in _ _ | exact oF2_in _ _ | exact nF_in _) (by first | assumption | exact aF2_in _ _ | exact oF2_in _ _ | exact nF_in _)).mono ?_); rintro e w' ⟨rfl, hbw⟩)
  obtain ⟨m, rfl⟩ := grow_mk hbw
  clear hbw
  replace hb := below_grow (hb.alloc hb.size _) m
  generalize grow _ m = wx at hb ⊢
  clear m
  go_wp2_with fail
  ((with_reducible refine (HO.out _ _ rfl _ _ (by first | assumption | exact aF2_in _ _ | exact oF2_in _ _ | exact nF_in _) (by first | assumption | exact aF2_in _ _ | exact oF2_in _ _ | exact nF_in _)).mono ?_); rintro e w' ⟨rfl, hbw⟩)
  obtain ⟨m, rfl⟩ := grow_mk hbw
  clear hbw
  replace hb := below_grow (hb.alloc hb.size _) m
  generalize grow _ m = wx at hb ⊢
  clear m
  go_wp2_with fail
  ((with_reducible refine (HA.out _ _ rfl _ _ (by first | assumption | exact aF2_in _ _ | exact oF2_in _ _ | exact nF_in _) (by first | assumption | exact aF2_in _ _ | exact oF2_in _ _ | exact nF_in _)).mono ?_); rintro e w' ⟨rfl, hbw⟩)
  obtain ⟨m, rfl⟩ := grow_mk hbw
  clear hbw
  replace hb := below_grow (hb.alloc hb.size _) m
  generalize grow _ m = wx at hb ⊢
  clear m
  go_wp2_with fail
  ((with_reducible refine (HA.out _ _ rfl _ _ (by first | assumption | exact aF2_in _ _ | exact oF2_in _ _ | exact nF_in _) (by first | assumption | exact aF2_in _ _ | exact oF2_in _ _ | exact nF_in _)).mono ?_); rintro e w' ⟨rfl, hbw⟩)
  obtain ⟨m, rfl⟩ := grow_mk hbw
  clear hbw
  replace hb := below_grow (hb.alloc hb.size _) m
  generalize grow _ m = wx at hb ⊢
  clear m
  go_wp2_with fail
  ((with_reducible refine (HA3.out _ _ rfl _ _ _ (by first | assumption | exact aF2_in _ _ | exact oF2_in _ _ | exact nF_in _) (by first | assumption | exact aF2_in _ _ | exact oF2_in _ _ | exact nF_in _) (by first | assumption | exact aF2_in _ _ | exact oF2_in _ _ | exact nF_in _)).mono ?_); rintro e w' ⟨rfl, hbw⟩)
  obtain ⟨m, rfl⟩ := grow_mk hbw
  clear hbw
  replace hb := below_grow (hb.alloc hb.size _) m
  generalize grow _ m = wx at hb ⊢
  clear m
  go_wp2_with fail
  ((with_reducible refine (HO.out _ _ rfl _ _ (by first | assumption | exact aF2_in _ _ | exact oF2_in _ _ | exact nF_in _) (by first | assumption | exact aF2_in _ _ | exact oF2_in _ _ | exact nF_in _)).mono ?_); rintro e w' ⟨rfl, hbw⟩)
  obtain ⟨m, rfl⟩ := grow_mk hbw
  clear hbw
  replace hb := below_grow (hb.alloc hb.size _) m
  generalize grow _ m = wx at hb ⊢
  clear m
  go_wp2_with fail
  ((with_reducible refine (HO.out _ _ rfl _ _ (by first | assumption | exact aF2_in _ _ | exact oF2_in _ _ | exact nF_in _) (by first | assumption | exact aF2_in _ _ | exact oF2_in _ _ | exact nF_in _)).mono ?_); rintro e w' ⟨rfl, hbw⟩)
  obtain ⟨m, rfl⟩ := grow_mk hbw
  clear hbw
  replace hb := below_grow (hb.alloc hb.size _) m
  generalize grow _ m = wx at hb ⊢
  clear m
  go_wp2_with fail
  ((with_reducible refine (HO3.out _ _ rfl _ _ _ (by first | assumption | exact aF2_in _ _ | exact oF2_in _ _ | exact nF_in _) (by first | assumption | exact aF2_in _ _ | exact oF2_in _ _ | exact nF_in _) (by first | assumption | exact aF2_in _ _ | exact oF2_in _ _ | exact nF_in _)).mono ?_); rintro e w' ⟨rfl, hbw⟩)
  obtain ⟨m, rfl⟩ := grow_mk hbw
  clear hbw
  replace hb := below_grow (hb.alloc hb.size _) m
  generalize grow _ m = wx at hb ⊢
  clear m
  go_wp2_with fail
  ((with_reducible refine (HO.out _ _ rfl _ _ (by first | assumption | exact aF2_in _ _ | exact oF2_in _ _ | exact nF_in _) (by first | assumption | exact aF2_in _ _ | exact oF2_in _ _ | exact nF_in _)).mono ?_); rintro e w' ⟨rfl, hbw⟩)
  obtain ⟨m, rfl⟩ := grow_mk hbw
  clear hbw
  replace hb := below_grow (hb.alloc hb.size _) m
  generalize grow _ m = wx at hb ⊢
  clear m
  go_wp2_with fail
  ((with_reducible refine (HA.out _ _ rfl _ _ (by first | assumption | exact aF2_in _ _ | exact oF2_in _ _ | exact nF_in _) (by first | assumption | exact aF2_in _ _ | exact oF2_in _ _ | exact nF_in _)).mono ?_); rintro e w' ⟨rfl, hbw⟩)
  obtain ⟨m, rfl⟩ := grow_mk hbw
  clear hbw
  replace hb := below_grow (hb.alloc hb.size _) m
  generalize grow _ m = wx at hb ⊢
  clear m
  go_wp2_with fail
  ((with_reducible refine (HA.out _ _ rfl _ _ (by first | assumption | exact aF2_in _ _ | exact oF2_in _ _ | exact nF_in _) (by first | assumption | exact aF2_in _ _ | exact oF2_in _ _ | exact nF_in _)).mono ?_); rintro e w' ⟨rfl, hbw⟩)
  obtain ⟨m, rfl⟩ := grow_mk hbw
  clear hbw
  replace hb := below_grow (hb.alloc hb.size _) m
  generalize grow _ m = wx at hb ⊢
  clear m
  go_wp2_with fail
  ((with_reducible refine (HA.out _ _ rfl _ _ (by first | assumption | exact aF2_in _ _ | exact oF2_in _ _ | exact nF_in _) (by first | assumption | exact aF2_in _ _ | exact oF2_in _ _ | exact nF_in _)).mono ?_); rintro e w' ⟨rfl, hbw⟩)
  obtain ⟨m, rfl⟩ := grow_mk hbw
  clear hbw
  replace hb := below_grow (hb.alloc hb.size _) m
  generalize grow _ m = wx at hb ⊢
  clear m
  go_wp2_with fail
  ((with_reducible refine (HO.out _ _ rfl _ _ (by first | assumption | exact aF2_in _ _ | exact oF2_in _ _ | exact nF_in _) (by first | assumption | exact aF2_in _ _ | exact oF2_in _ _ | exact nF_in _)).mono ?_); rintro e w' ⟨rfl, hbw⟩)
  obtain ⟨m, rfl⟩ := grow_mk hbw
  clear hbw
  replace hb := below_grow (hb.alloc hb.size _) m
  generalize grow _ m = wx at hb ⊢
  clear m
  go_wp2_with fail
  ((with_reducible refine (HA.out _ _ rfl _ _ (by first | assumption | exact aF2_in _ _ | exact oF2_in _ _ | exact nF_in _) (by first | assumption | exact aF2_in _ _ | exact oF2_in _ _ | exact nF_in _)).mono ?_); rintro e w' ⟨rfl, hbw⟩)
  obtain ⟨m, rfl⟩ := grow_mk hbw
  clear hbw
  replace hb := below_grow (hb.alloc hb.size _) m
  generalize grow _ m = wx at hb ⊢
  clear m
  go_wp2_with fail
  ((with_reducible refine (HO.out _ _ rfl _ _ (by first | assumption | exact aF2_in _ _ | exact oF2_in _ _ | exact nF_in _) (by first | assumption | exact aF2_in _ _ | exact oF2_in _ _ | exact nF_in _)).mono ?_); rintro e w' ⟨rfl, hbw⟩)
  obtain ⟨m, rfl⟩ := grow_mk hbw
  clear hbw
  replace hb := below_grow (hb.alloc hb.size _) m
  generalize grow _ m = wx at hb ⊢
  clear m
  go_wp2_with fail
  ((with_reducible refine (HO.out _ _ rfl _ _ (by first | assumption | exact aF2_in _ _ | exact oF2_in _ _ | exact nF_in _) (by first | assumption | exact aF2_in _ _ | exact oF2_in _ _ | exact nF_in _)).mono ?_); rintro e w' ⟨rfl, hbw⟩)
  obtain ⟨m, rfl⟩ := grow_mk hbw
  clear hbw
  replace hb := below_grow (hb.alloc hb.size _) m
  generalize grow _ m = wx at hb ⊢
  clear m
  go_wp2_with fail
  ((with_reducible refine (HO.out _ _ rfl _ _ (by first | assumption | exact aF2_in _ _ | exact oF2_in _ _ | exact nF_in _) (by first | assumption | exact aF2_in _ _ | exact oF2_in _ _ | exact nF_in _)).mono ?_); rintro e w' ⟨rfl, hbw⟩)
  obtain ⟨m, rfl⟩ := grow_mk hbw
  clear hbw
  replace hb := below_grow (hb.alloc hb.size _) m
  generalize grow _ m = wx at hb ⊢
  clear m
  go_wp2_with fail
  ((with_reducible refine (HA.out _ _ rfl _ _ (by first | assumption | exact aF2_in _ _ | exact oF2_in _ _ | exact nF_in _) (by first | assumption | exact aF2_in _ _ | exact oF2_in _ _ | exact nF_in _)).mono ?_); rintro e w' ⟨rfl, hbw⟩)
  obtain ⟨m, rfl⟩ := grow_mk hbw
  clear hbw
  replace hb := below_grow (hb.alloc hb.size _) m
  generalize grow _ m = wx at hb ⊢
  clear m
  go_wp2_with fail
  ((with_reducible refine (HW.out _).mono ?_); rintro e w' ⟨rfl, hbw⟩)
  obtain ⟨m, rfl⟩ := grow_mk hbw
  clear hbw
  go_wp2_with fail
  go_ret
  exact ⟨rfl, below_grow hb _⟩

set_option maxRecDepth 100000 in
theorem condMorgan_lifted (os : Os) (started : os.Started) (H : Type) (enc : TypeId × Value → H) :
    ReturnsInHanded {} Try.checked os 10 .any (Rows.condMorganSpec.pre6 enc Try.prog Try.f10 Rows.condMorganRow.domain false) (Rows.condMorganSpec.post enc Try.prog Try.f10 false true false false) := by
  refine returnsInHanded_of_change (C := Try.checked) Try.own started (by kernel_rfl) Try.func10
    (ChangeSpec.witness6 (enc := enc) (C := Try.checked) false ⟨#[], #[.int .i64 0, .int .i64 0, .int .i64 0], []⟩ 8 (by kernel_rfl) (by kernel_rfl) (by kernel_rfl) (by kernel_rfl)) ?_
  intro W base args ds gs before hval0 hW hcnd _
  have hval : ∀ (j : Nat) t v, Try.f10.params[j]? = some t → args[j]? = some v → Value.okWide Try.prog W .any base t v := hval0
  have hW' := hW
  obtain ⟨p, q, hA0, hV, rfl, hfz, hnd⟩ := hW
  have hA : DataW.TrodAll enc Try.prog W 0 (fun _ => true) true Try.f10.params.toList args.toList ds p := hA0
  rw [Try.params10] at hA hval
  obtain ⟨v0, v1, v2, d0, d1, d2, p0, p1, p2, rfl, rfl, rfl, h0, h1, h2⟩ := trodAll_three hA
  obtain ⟨rfl, rfl⟩ := trodVars_none hV
  obtain ⟨x, rfl, rfl, rfl, wx⟩ := open_int Try.underlying3 (hval 0 3 v0 rfl rfl) h0
  obtain ⟨y, rfl, rfl, rfl, wy⟩ := open_int Try.underlying3 (hval 1 3 v1 rfl rfl) h1
  obtain ⟨z, rfl, rfl, rfl, wz⟩ := open_int Try.underlying3 (hval 2 3 v2 rfl rfl) h2
  refine (law_condMorgan x y z W (int_of_wf wx) (int_of_wf wy) (int_of_wf wz)).mono fun e W' ⟨he, hb⟩ => ?_
  subst he
  exact ⟨_, rfl, law_post Try.laidOut Try.underlying4 rfl (by kernel_rfl) rfl (by rw [Try.params10]; decide +kernel) hW' hb⟩

theorem condMorgan_holds : Rows.CondMorganSaid :=
  OpenClaim.holds_of_wide 10 Try.f10 rfl rfl rfl rfl rfl rfl rfl ⟨rfl, rfl, rfl, rfl, rfl⟩ rfl rfl rfl rfl rfl (by kernel_rfl) Try.func10 (by kernel_rfl)
    (of_decide_eq_true (by kernel_rfl)) (by unfold Func.isWrapper; first | (rw [if_pos (by decide +kernel)]; kernel_rfl) | (rw [if_neg (by decide +kernel)]; exact ⟨rfl, rfl⟩))
    (fun os started H enc _ => condMorgan_lifted os started H enc)
#print axioms condMorgan_holds

end Go.Proofs.Ytgjhaanpkfheeaa
