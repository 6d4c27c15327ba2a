/- A slice of numbers as an argument. -/
import Derived.Test.YtgjhaanpkfheeaaLift
import Derived.Test.YtgjhaanpkfheeaaCondB
import Derived.ChangeSlices
namespace Go.Proofs.Ytgjhaanpkfheeaa
set_option linter.unusedVariables false
set_option linter.unusedSimpArgs false
open Go.ChangeShapes Go.WideShapes Go.ChangeAt Go.RowKit

theorem int_of_wf {n : Int} (h1 : (Lit.int .i64 n).wf = true) : -9223372036854775808 ≤ n ∧ n ≤ 9223372036854775807 := by
  simp [Lit.wf, IntKind.min, IntKind.max, IntKind.signed, IntKind.bits] at h1
  exact ⟨by omega, by omega⟩

set_option maxRecDepth 100000 in
theorem ints_open {H : Type} {enc : TypeId × Value → H} {w : World} {base : Nat} {spare : Nat → Bool} {held : Bool} {r : Reach} {b0 : Nat} {v : Value} {d : DataW H} {p : List MemPlace}
    (hv : Value.okWide Try.prog w r b0 36 v) (h : DataW.Trod enc Try.prog w base spare held 36 v d p) :
    ∃ (oa : Option Addr) (len cap b o : Nat) (l : List Int), v = .slice oa len cap ∧ Ints w oa len cap b o l := by
  obtain ⟨oa, len, cap, rfl⟩ := okWide_slice Try.underlying36 hv
  obtain ⟨fuel, h⟩ := h
  rcases Go.ChangeShapes.open_ints (P := Try.prog) Try.underlying36 Try.underlying3 (by kernel_rfl) h with ⟨hc, _⟩ | ⟨a, len', cap', zs, hc, _, hl, hm, hlen, _, hall, hwf⟩
  · obtain ⟨rfl, rfl, rfl⟩ : oa = none ∧ len = 0 ∧ cap = 0 := by simpa [Value.cells] using hc
    exact ⟨none, 0, 0, 0, 0, [], rfl, rfl, Nat.le_refl _, Nat.zero_le _, fun h => absurd h (by decide), fun h => absurd h (by decide), fun _ _ h => by simp at h, fun _ _ h => by simp at h⟩
  · obtain ⟨rfl, rfl, rfl⟩ : oa = some a ∧ len = len' ∧ cap = cap' := by simpa [Value.cells] using hc
    have hlm : len ≤ zs.length := by rw [hlen]; split <;> omega
    have hlist : ∀ (i : Nat) (x : Int), (zs.take len)[i]? = some x → i < len ∧ i < zs.length ∧ zs.getD i 0 = x ∧ x ∈ zs := fun i x hx => by
      rw [List.getElem?_take] at hx
      split at hx
      · rename_i hi
        refine ⟨hi, by omega, by rw [List.getD_eq_getElem?_getD, hx]; rfl, List.mem_of_getElem? hx⟩
      · cases hx
    obtain ⟨ab, ao, asp⟩ := a
    have hsp : 0 < len → asp = none := fun hpos => by simpa [Addr.add] using World.cell?_spot (hall 0 (by omega))
    refine ⟨some ⟨ab, ao, asp⟩, len, cap, ab, ao, zs.take len, rfl, by simp; omega, hl, hm, fun hpos => by rw [hsp hpos], fun hpos => ?_, fun i x hx => ?_, fun i x hx => ?_⟩
    · have := World.block_lt_of_cell? w _ (hall 0 (by omega))
      simpa [Addr.add] using this
    · obtain ⟨hi, hi2, e, _⟩ := hlist i x hx
      obtain rfl := hsp (by omega)
      have h0 := hall i hi2
      rw [e, Addr.add_lit] at h0
      exact h0
    · obtain ⟨_, _, _, hm⟩ := hlist i x hx
      exact int_of_wf (hwf x hm)

end Go.Proofs.Ytgjhaanpkfheeaa
