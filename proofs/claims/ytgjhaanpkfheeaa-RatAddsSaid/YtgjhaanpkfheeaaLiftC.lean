/- A slice of fractions as an argument. -/
import Derived.Test.YtgjhaanpkfheeaaLiftB
import Derived.Test.YtgjhaanpkfheeaaRats
import Derived.Deep.SlicePairs
namespace Go.Proofs.Ytgjhaanpkfheeaa
set_option linter.unusedVariables false
set_option linter.unusedSimpArgs false
open Go.ChangeShapes Go.WideShapes Go.ChangeAt Go.RowKit Go.Deep

set_option maxRecDepth 100000 in
theorem open_rats {H : Type} {enc : TypeId × Value → H} {w : World} {base : Nat} {spare : Nat → Bool} {held : Bool} {r : Reach} {b0 : Nat} {v : Value} {d : DataW H} {p : List MemPlace}
    (hv : Value.okWide Try.prog w r b0 30 v) (h : DataW.Trod enc Try.prog w base spare held 30 v d p) :
    ∃ (oa : Option Addr) (len cap b o : Nat) (l : List Rt), v = .slice oa len cap ∧ Rats w oa len cap b o l := by
  obtain ⟨oa, len, cap, rfl⟩ := okWide_slice Try.underlying30 hv
  obtain ⟨fuel, h⟩ := h
  rcases open_slice_pairs (P := Try.prog) Try.underlying30 Try.underlying23 (by kernel_rfl) rfl rfl (by kernel_rfl) (by kernel_rfl) h with ⟨hc, _⟩ | ⟨a, len', cap', m, k, V0, V1, D0, D1, P0, P1, hc, _, hl, hm, hmm, _, hall⟩
  · obtain ⟨rfl, rfl, rfl⟩ : oa = none ∧ len = 0 ∧ cap = 0 := by simpa [Value.cells] using hc
    exact ⟨none, 0, 0, 0, 0, [], rfl, rfl, Nat.le_refl _, Nat.zero_le _, fun h => absurd h (by decide), fun h => absurd h (by decide), fun _ _ h => by simp at h, fun _ _ h => by simp at h, fun _ _ h => by simp at h⟩
  · obtain ⟨rfl, rfl, rfl⟩ : oa = some a ∧ len = len' ∧ cap = cap' := by simpa [Value.cells] using hc
    have hlm : len ≤ m := by rw [hmm]; split <;> omega
    have each : ∀ i, i < len → ∃ q : Rt, V0 i = .int .i64 q.1 ∧ V1 i = .int .i64 q.2 ∧ Is64 q := fun i hi => by
      obtain ⟨_, _, t0, t1⟩ := hall i (by omega)
      obtain ⟨x, hx, _, w0⟩ := DataW.trod_int Try.underlying2 t0
      obtain ⟨y, hy, _, w1⟩ := DataW.trod_int Try.underlying2 t1
      exact ⟨(x, y), by simpa using hx, by simpa using hy, is64_of_wf w0 w1⟩
    let f : Nat → Rt := fun i => if hi : i < len then (each i hi).choose else (0, 0)
    have hf : ∀ i, i < len → V0 i = .int .i64 (f i).1 ∧ V1 i = .int .i64 (f i).2 ∧ Is64 (f i) := fun i hi => by
      simp only [f, dif_pos hi]; exact (each i hi).choose_spec
    have hlist : ∀ (i : Nat) (r : Rt), ((List.range len).map f)[i]? = some r → i < len ∧ r = f i := fun i r hr => by
      rw [List.getElem?_map] at hr
      rcases Nat.lt_or_ge i len with hi | hi
      · rw [List.getElem?_range hi] at hr
        exact ⟨hi, (Option.some.inj hr).symm⟩
      · rw [List.getElem?_eq_none (by simpa using hi)] at hr
        cases hr
    obtain ⟨ab, ao, asp⟩ := a
    have hsp : 0 < len → asp = none := fun hpos => by simpa [Addr.add] using World.cell?_spot (hall 0 (by omega)).1
    refine ⟨some ⟨ab, ao, asp⟩, len, cap, ab, ao, (List.range len).map f, rfl, by simp, hl, hm, fun hpos => by rw [hsp hpos], fun hpos => ?_, fun i r hr => ?_, fun i r hr => ?_, fun i r hr => ?_⟩
    · have := World.block_lt_of_cell? w _ (hall 0 (by omega)).1
      simpa [Addr.add] using this
    · obtain ⟨hi, rfl⟩ := hlist i r hr
      obtain rfl := hsp (by omega)
      have h0 := (hall i (by omega)).1
      rw [(hf i hi).1, Addr.add_lit] at h0
      exact h0
    · obtain ⟨hi, rfl⟩ := hlist i r hr
      obtain rfl := hsp (by omega)
      have h0 := (hall i (by omega)).2.1
      rw [(hf i hi).2.1, Addr.add_lit, ← Nat.add_assoc] at h0
      exact h0
    · obtain ⟨hi, rfl⟩ := hlist i r hr
      exact (hf i hi).2.2

end Go.Proofs.Ytgjhaanpkfheeaa
