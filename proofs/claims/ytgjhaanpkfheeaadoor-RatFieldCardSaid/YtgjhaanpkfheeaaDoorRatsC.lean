/- Least and Most, of both. -/
import Derived.Test.YtgjhaanpkfheeaaDoorRatsB
namespace Go.Proofs.YtgjhaanpkfheeaaDoor
set_option linter.unusedVariables false
set_option linter.unusedSimpArgs false
open Go.RowKit

section
variable {oa : Option Addr} {len cap b o : Nat} {l : List Rt} (w : World) (h : Rats w oa len cap b o l)

end

/-- two fractions, laid anew -/
theorem rats_two (W : World) (t : TypeId) (x y : Rt) (hx : Is64 x) (hy : Is64 y) : Rats (W.alloc (.cells #[.int .i64 x.1, .int .i64 x.2, .int .i64 y.1, .int .i64 y.2] t)) (some ⟨W.heap.size, 0, none⟩) 2 2 W.heap.size 0 [x, y] := by
  have hb := Blk.new W t #[.int .i64 x.1, .int .i64 x.2, .int .i64 y.1, .int .i64 y.2]
  have key : ∀ (P : Nat → Rt → Prop), P 0 x → P 1 y → ∀ (i : Nat) (r : Rt), [x, y][i]? = some r → P i r := fun P h0 h1 i r hr => by
    match i, hr with
    | 0, hr => cases hr; exact h0
    | 1, hr => cases hr; exact h1
    | i + 2, hr => simp at hr
  refine ⟨rfl, Nat.le_refl _, by decide, fun _ => rfl, fun _ => by simp, key _ ?_ ?_, key _ ?_ ?_, key _ hx hy⟩
  · exact hb.cell 0
  · exact hb.cell 2
  · exact hb.cell 1
  · exact hb.cell 3
theorem rats_one (W : World) (t : TypeId) (x : Rt) (hx : Is64 x) : Rats (W.alloc (.cells #[.int .i64 x.1, .int .i64 x.2] t)) (some ⟨W.heap.size, 0, none⟩) 1 1 W.heap.size 0 [x] := by
  have hb := Blk.new W t #[.int .i64 x.1, .int .i64 x.2]
  have key : ∀ (P : Nat → Rt → Prop), P 0 x → ∀ (i : Nat) (r : Rt), [x][i]? = some r → P i r := fun P h0 i r hr => by
    match i, hr with
    | 0, hr => cases hr; exact h0
    | i + 1, hr => simp at hr
  refine ⟨rfl, Nat.le_refl _, by decide, fun _ => rfl, fun _ => by simp, key _ ?_, key _ ?_, key _ hx⟩
  · exact hb.cell 0
  · exact hb.cell 1

end Go.Proofs.YtgjhaanpkfheeaaDoor
