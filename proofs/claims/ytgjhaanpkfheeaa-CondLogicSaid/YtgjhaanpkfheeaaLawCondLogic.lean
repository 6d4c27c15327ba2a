/- CondLogic: and, or, not of any numbers are told alike by the program and the reference. No condition. -/
import Derived.Test.YtgjhaanpkfheeaaAwakeC
import Derived.Test.YtgjhaanpkfheeaaLiftD
namespace Go.Proofs.Ytgjhaanpkfheeaa
set_option linter.unusedVariables false
set_option linter.unusedSimpArgs false
open Go.ChangeShapes Go.WideShapes Go.ChangeAt Go.RowKit

set_option maxHeartbeats 1000000 in
theorem law_condLogic {oa : Option Addr} {len cap b o : Nat} {l : List Int} (x : Int) (w : World) (h : Ints w oa len cap b o l) (hx : In64 x) :
    Calls Try.prog 9 #[.slice oa len cap, .int .i64 x] w fun e w' => e = .returned (.bool true) ∧ Below w.heap.size w w' := by
  have C1 := Lib.hid (and_any oa len cap b o l w h)
  have C2 := Lib.hid (rand_any oa len cap b o l w h)
  have C3 := Lib.hid (or_any oa len cap b o l w h)
  have C4 := Lib.hid (ror_any oa len cap b o l w h)
  have C5 := Lib.hid (not_any x w hx.1 hx.2)
  have C6 := Lib.hid (rnot_any x w hx.1 hx.2)
  have C7 := Lib.hid (awakeC_any w)
  generalize andG 2 l = p at *
  generalize orG 0 l = q at *
  generalize 2 - tr x = r at *
  clear h
  go_enter Try.func9, Try.ntmps9
  go_wp2_with fail
  ((with_reducible refine (C1.out).mono ?_); rintro e w' ⟨rfl, rfl⟩)
  go_wp2_with fail
  ((with_reducible refine (C2.out).mono ?_); rintro e w' ⟨rfl, rfl⟩)
  go_wp2_with fail
  ((with_reducible refine (C3.out).mono ?_); rintro e w' ⟨rfl, rfl⟩)
  go_wp2_with fail
  ((with_reducible refine (C4.out).mono ?_); rintro e w' ⟨rfl, rfl⟩)
  go_wp2_with fail
  ((with_reducible refine (C5.out).mono ?_); rintro e w' ⟨rfl, rfl⟩)
  go_wp2_with fail
  ((with_reducible refine (C6.out).mono ?_); rintro e w' ⟨rfl, rfl⟩)
  go_wp2_with fail
  ((with_reducible refine (C7.out).mono ?_); rintro e w' ⟨rfl, hbw⟩)
  obtain ⟨m, rfl⟩ := grow_mk hbw
  clear hbw
  go_wp2_with fail
  go_ret
  exact ⟨ret_bool rfl, grow_below _⟩

set_option maxRecDepth 100000 in
theorem condLogic_lifted (os : Os) (started : os.Started) (H : Type) (enc : TypeId × Value → H) :
    ReturnsInHanded {} Try.checked os 9 .any (Rows.condLogicSpec.pre6 enc Try.prog Try.f9 Rows.condLogicRow.domain false) (Rows.condLogicSpec.post enc Try.prog Try.f9 false true false false) := by
  refine returnsInHanded_of_change (C := Try.checked) Try.own started (by kernel_rfl) Try.func9
    (ChangeSpec.witness6 (enc := enc) (C := Try.checked) false ⟨#[], #[.slice none 0 0, .int .i64 0], []⟩ 8 (by kernel_rfl) (by kernel_rfl) (by kernel_rfl) (by kernel_rfl)) ?_
  intro W base args ds gs before hval0 hW hcnd _
  have hval : ∀ (j : Nat) t v, Try.f9.params[j]? = some t → args[j]? = some v → Value.okWide Try.prog W .any base t v := hval0
  have hW' := hW
  obtain ⟨p, q, hA0, hV, rfl, hfz, hnd⟩ := hW
  have hA : DataW.TrodAll enc Try.prog W 0 (fun _ => true) true Try.f9.params.toList args.toList ds p := hA0
  rw [Try.params9] at hA hval
  obtain ⟨v0, v1, d0, d1, p0, p1, rfl, rfl, rfl, h0, h1⟩ := trodAll_two hA
  obtain ⟨rfl, rfl⟩ := trodVars_none hV
  obtain ⟨oa, len, cap, b, o, l, rfl, hR⟩ := ints_open (hval 0 36 v0 rfl rfl) h0
  obtain ⟨x, rfl, rfl, rfl, wx⟩ := open_int Try.underlying3 (hval 1 3 v1 rfl rfl) h1
  refine (law_condLogic x W hR (int_of_wf wx)).mono fun e W' ⟨he, hb⟩ => ?_
  subst he
  exact ⟨_, rfl, law_post Try.laidOut Try.underlying4 rfl (by kernel_rfl) rfl (by rw [Try.params9]; decide +kernel) hW' hb⟩

theorem condLogic_holds : Rows.CondLogicSaid :=
  OpenClaim.holds_of_wide 9 Try.f9 rfl rfl rfl rfl rfl rfl rfl ⟨rfl, rfl, rfl, rfl, rfl⟩ rfl rfl rfl rfl rfl (by kernel_rfl) Try.func9 (by kernel_rfl)
    (of_decide_eq_true (by kernel_rfl)) (by unfold Func.isWrapper; first | (rw [if_pos (by decide +kernel)]; kernel_rfl) | (rw [if_neg (by decide +kernel)]; exact ⟨rfl, rfl⟩))
    (fun os started H enc _ => condLogic_lifted os started H enc)
#print axioms condLogic_holds

end Go.Proofs.Ytgjhaanpkfheeaa
