/- A condition as an argument; how long a slice of numbers may be. -/
import Derived.Test.YtgjhaanpkfheeaaTreeP
import Derived.SizedLaws
namespace Go.Proofs.Ytgjhaanpkfheeaa
set_option linter.unusedVariables false
set_option linter.unusedSimpArgs false
open Go.ChangeShapes Go.WideShapes Go.ChangeAt Go.RowKit Go.Deep

section
variable {H : Type} {enc : TypeId × Value → H} {w : World} {base : Nat} {spare : Nat → Bool} {held : Bool}

set_option maxRecDepth 100000 in
theorem cond_open {r : Reach} {b0 : Nat} {v : Value} {d : DataW H} {p : List MemPlace} (hv : Value.okWide Try.prog w r b0 49 v) (h : DataW.Trod enc Try.prog w base spare held 49 v d p)
    (hw : ∀ n ∈ d.weights Try.prog 49, n ≤ 140737488355328) : ∃ (e : Cd) (h : Nat), v = cv e ∧ CdIn w h e ∧ (leavesC h e).length ≤ Rows.uptoBulk d := by
  obtain ⟨cs, rfl, _⟩ := okWide_struct Try.underlying49 hv
  obtain ⟨fuel, hf⟩ := h
  obtain ⟨e, he, hi, hl⟩ := open_cd fuel _ _ hf hw
  refine ⟨e, fuel, ?_, hi, hl⟩
  have e2 : cs.toList = ccells e := he
  show Value.agg cs = Value.agg (ccells e).toArray
  rw [← e2]

set_option maxRecDepth 100000 in
theorem ints_reach {oa : Option Addr} {len cap : Nat} {d : DataW H} {p : List MemPlace} {X : Nat} (h : DataW.Trod enc Try.prog w base spare held 36 (.slice oa len cap) d p)
    (hw : ∀ n ∈ d.weights Try.prog 36, n ≤ X) : len * 8 ≤ X := by
  obtain ⟨fuel, hf⟩ := h
  have hb : Try.prog.bytesOf 3 = 8 := by kernel_rfl
  rcases DataW.trod_slice Try.underlying36 hf with ⟨hc, _⟩ | ⟨a, len', cap', elems, rest, n, _, hc, hx, _, _, _, hel, _⟩
  · simp only [Value.cells, List.cons.injEq, Value.slice.injEq, and_true] at hc
    rw [hc.2.1]; omega
  · simp only [Value.cells, List.cons.injEq, Value.slice.injEq, and_true] at hc
    simp only [Prod.mk.injEq] at hx
    have := hw ((elems.length + rest.length) * 8) (by
      rw [hx.1]
      simp [DataW.weights, Try.underlying36, hb])
    rw [hc.2.1]
    omega
end

theorem reach_le {n : Nat} (h : n ≤ reachBytes) : n ≤ 140737488355328 := Nat.le_trans h (by decide)
theorem reach_of {H : Type} {P : Program} {ts : List TypeId} {ds : List (DataW H)} (h : (DataW.weightsEach P ts ds).all (· ≤ reachBytes) = true) {j : Nat} {t : TypeId} {d : DataW H} (ht : ts[j]? = some t) (hd : ds[j]? = some d) : ∀ n ∈ d.weights P t, n ≤ 140737488355328 := fun n hn =>
  reach_le (by simpa using List.all_eq_true.1 h n (DataW.weights_mem_each ht hd n hn))

end Go.Proofs.Ytgjhaanpkfheeaa
