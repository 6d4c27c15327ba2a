/- RatOrder: the order of fractions goes on, is turned by turning signs, is not turned by what is added to both, and tells the same of the same. No condition. -/
import Derived.Test.YtgjhaanpkfheeaaOrderLess
import Derived.Test.YtgjhaanpkfheeaaOrderSame
import Derived.Test.YtgjhaanpkfheeaaOrderMore
import Derived.Test.YtgjhaanpkfheeaaLiftB
namespace Go.Proofs.Ytgjhaanpkfheeaa
set_option linter.unusedVariables false
set_option linter.unusedSimpArgs false
open Go.ChangeShapes Go.WideShapes Go.ChangeAt Go.RowKit

set_option maxRecDepth 20000 in
set_option maxHeartbeats 4000000 in
theorem law_ratOrder (a b c : Rt) (w : World) (ha : Is64 a) (hb : Is64 b) (hc : Is64 c) :
    Calls Try.prog 16 #[rv a, rv b, rv c] w fun e w' => e = .returned (.bool true) ∧ Below w.heap.size w w' := by
  have HW := Lib.hid (fun w => awakeR_any w)
  have hia := fun w => lawis_any a w ha
  have hib := fun w => lawis_any b w hb
  have hcab := fun w => cmp_any a b w ha hb
  cases sa : sureB a with
  | false =>
    have hz : cmpR a b = 0 := by unfold cmpR; rw [sa]; rfl
    rw [sa, hz] at hcab
    rw [sa] at hia
    obtain ⟨n, d⟩ := a; obtain ⟨p, q⟩ := b; obtain ⟨r, s⟩ := c
    have HIA := Lib.hid hia
    have HC := Lib.hid hcab
    clear hia hib hcab sa hz
    go_enter Try.func16, Try.ntmps16
    go_wp2_with fail
    ((with_reducible refine (HW.out _).mono ?_); rintro e w' ⟨rfl, hbw⟩)
    obtain ⟨m, rfl⟩ := grow_mk hbw
    clear hbw
    go_wp2_with fail
    ((with_reducible refine (HC.out _).mono ?_); rintro e w' ⟨rfl, hbw⟩)
    obtain ⟨m2, rfl⟩ := grow_mk hbw
    clear hbw
    go_wp2_with fail
    ((with_reducible refine (HIA.out _).mono ?_); rintro e w' ⟨rfl, hbw⟩)
    obtain ⟨m3, rfl⟩ := grow_mk hbw
    clear hbw
    go_wp2_with fail
    go_ret
    exact ⟨rfl, below_grow (((below_box _ _).alloc (by simp) _).alloc (by simp; omega) _) _⟩
  | true =>
    rw [sa] at hia
    cases sb : sureB b with
    | false =>
      have hz : cmpR a b = 0 := by unfold cmpR; rw [sb, Bool.and_false]; rfl
      rw [sb, Bool.and_false, hz] at hcab
      rw [sb] at hib
      obtain ⟨n, d⟩ := a; obtain ⟨p, q⟩ := b; obtain ⟨r, s⟩ := c
      have HIA := Lib.hid hia
      have HIB := Lib.hid hib
      have HC := Lib.hid hcab
      clear hia hib hcab sa sb hz
      go_enter Try.func16, Try.ntmps16
      go_wp2_with fail
      ((with_reducible refine (HW.out _).mono ?_); rintro e w' ⟨rfl, hbw⟩)
      obtain ⟨m, rfl⟩ := grow_mk hbw
      clear hbw
      go_wp2_with fail
      ((with_reducible refine (HC.out _).mono ?_); rintro e w' ⟨rfl, hbw⟩)
      obtain ⟨m2, rfl⟩ := grow_mk hbw
      clear hbw
      go_wp2_with fail
      ((with_reducible refine (HIA.out _).mono ?_); rintro e w' ⟨rfl, hbw⟩)
      obtain ⟨m3, rfl⟩ := grow_mk hbw
      clear hbw
      go_wp2_with fail
      ((with_reducible refine (HIB.out _).mono ?_); rintro e w' ⟨rfl, hbw⟩)
      obtain ⟨m4, rfl⟩ := grow_mk hbw
      clear hbw
      go_wp2_with fail
      go_ret
      exact ⟨rfl, below_grow (((below_box _ _).alloc (by simp) _).alloc (by simp; omega) _) _⟩
    | true =>
      rcases cmpR_three a b with hx | hx | hx
      · exact order_less a b c w ha hb hc sa sb hx
      · exact order_same a b c w ha hb hc sa sb hx
      · exact order_more a b c w ha hb hc sa sb hx

set_option maxRecDepth 100000 in
theorem ratOrder_lifted (os : Os) (started : os.Started) (H : Type) (enc : TypeId × Value → H) :
    ReturnsInHanded {} Try.checked os 16 .any (Rows.ratOrderSpec.pre6 enc Try.prog Try.f16 Rows.ratOrderRow.domain false) (Rows.ratOrderSpec.post enc Try.prog Try.f16 false true false false) := by
  refine returnsInHanded_of_change (C := Try.checked) Try.own started (by kernel_rfl) Try.func16
    (ChangeSpec.witness6 (enc := enc) (C := Try.checked) false ⟨#[], #[.agg #[.int .i64 0, .int .i64 0], .agg #[.int .i64 0, .int .i64 0], .agg #[.int .i64 0, .int .i64 0]], []⟩ 8 (by kernel_rfl) (by kernel_rfl) (by kernel_rfl) (by kernel_rfl)) ?_
  intro W base args ds gs before hval0 hW hcnd _
  have hval : ∀ (j : Nat) t v, Try.f16.params[j]? = some t → args[j]? = some v → Value.okWide Try.prog W .any base t v := hval0
  have hW' := hW
  obtain ⟨p, q, hA0, hV, rfl, hfz, hnd⟩ := hW
  have hA : DataW.TrodAll enc Try.prog W 0 (fun _ => true) true Try.f16.params.toList args.toList ds p := hA0
  rw [Try.params16] at hA hval
  obtain ⟨v0, v1, v2, d0, d1, d2, p0, p1, p2, rfl, rfl, rfl, h0, h1, h2⟩ := trodAll_three hA
  obtain ⟨rfl, rfl⟩ := trodVars_none hV
  obtain ⟨a, rfl, rfl, rfl, wa⟩ := open_rat (hval 0 23 v0 rfl rfl) h0
  obtain ⟨b, rfl, rfl, rfl, wb⟩ := open_rat (hval 1 23 v1 rfl rfl) h1
  obtain ⟨c, rfl, rfl, rfl, wc⟩ := open_rat (hval 2 23 v2 rfl rfl) h2
  refine (law_ratOrder a b c W wa wb wc).mono fun e W' ⟨he, hb⟩ => ?_
  subst he
  exact ⟨_, rfl, law_post Try.laidOut Try.underlying4 rfl (by kernel_rfl) rfl (by rw [Try.params16]; decide +kernel) hW' hb⟩

theorem ratOrder_holds : Rows.RatOrderSaid :=
  OpenClaim.holds_of_wide 16 Try.f16 rfl rfl rfl rfl rfl rfl rfl ⟨rfl, rfl, rfl, rfl, rfl⟩ rfl rfl rfl rfl rfl (by kernel_rfl) Try.func16 (by kernel_rfl)
    (of_decide_eq_true (by kernel_rfl)) (by unfold Func.isWrapper; first | (rw [if_pos (by decide +kernel)]; kernel_rfl) | (rw [if_neg (by decide +kernel)]; exact ⟨rfl, rfl⟩))
    (fun os started H enc _ => ratOrder_lifted os started H enc)
#print axioms ratOrder_holds

end Go.Proofs.Ytgjhaanpkfheeaa
