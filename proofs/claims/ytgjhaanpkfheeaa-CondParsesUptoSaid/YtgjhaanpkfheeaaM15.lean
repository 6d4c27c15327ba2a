/- Of my texts: TokB, TokC. -/
import Derived.Test.YtgjhaanpkfheeaaM05
import Derived.Test.YtgjhaanpkfheeaaM11
import Derived.OwnWalk
import Derived.Deep.AppendLies
import Derived.Laws.BitsAllLaws
import Derived.Deep.LoopGhost
import Derived.Deep.CutBlock
import Derived.Deep.DeepCutAuto
namespace Go.Proofs.Ytgjhaanpkfheeaa
set_option linter.unusedVariables false
set_option linter.unusedSimpArgs false
open Go.RowKit

/-- n things of so many cells lie behind a slice -/
structure Sl (w : World) (oa : Option Addr) (n cap b o sz : Nat) (vs : List Value) : Prop where
  len : vs.length = n * sz
  le : n ≤ cap
  max : cap ≤ maxLen
  lies : 0 < n → oa = some ⟨b, o, none⟩ ∧ b < w.heap.size
  cell : ∀ (j : Nat) (v : Value), vs[j]? = some v → w.cell? ⟨b, o + j, none⟩ = some v

theorem Sl.pos {w : World} {oa : Option Addr} {n cap b o sz : Nat} {vs : List Value} (h : Sl w oa n cap b o sz vs) {j : Nat} {v : Value} (hv : vs[j]? = some v) : 0 < n := by
  have := (List.getElem?_eq_some_iff.1 hv).1
  rw [h.len] at this
  rcases Nat.eq_zero_or_pos n with rfl | h
  · omega
  · exact h
theorem Sl.grown {w w' : World} {oa : Option Addr} {n cap b o sz : Nat} {vs : List Value} {row : Option Nat} (h : Sl w oa n cap b o sz vs) (hg : w.grownBy w' row) (hne : 0 < n → some b ≠ row) : Sl w' oa n cap b o sz vs :=
  ⟨h.len, h.le, h.max, fun hp => ⟨(h.lies hp).1, Nat.lt_of_lt_of_le (h.lies hp).2 hg.size⟩, fun j v hv => by
    have hp := h.pos hv
    rw [← h.cell j v hv]
    simp only [World.cell?]
    rw [hg.block b (h.lies hp).2 (hne hp)]⟩
theorem Sl.below {w w' : World} {oa : Option Addr} {n cap b o sz : Nat} {vs : List Value} (h : Sl w oa n cap b o sz vs) (hb : Below w.heap.size w w') : Sl w' oa n cap b o sz vs :=
  ⟨h.len, h.le, h.max, fun hp => ⟨(h.lies hp).1, Nat.lt_of_lt_of_le (h.lies hp).2 hb.size⟩, fun j v hv => (hb.cell (p := ⟨b, o + j, none⟩) (h.lies (h.pos hv)).2).trans (h.cell j v hv)⟩
theorem Sl.drop {w : World} {oa : Option Addr} {n cap b o : Nat} {vs : List Value} (h : Sl w oa n cap b o 1 vs) {k : Nat} (hk : k ≤ n) : Sl w (some ⟨b, o + k, none⟩) (n - k) (cap - k) b (o + k) 1 (vs.drop k) :=
  ⟨by have := h.len; rw [List.length_drop]; omega, by have := h.le; omega, by have := h.max; omega, fun hp => ⟨rfl, (h.lies (by omega)).2⟩, fun j v hv => by
    rw [List.getElem?_drop] at hv
    rw [show o + k + j = o + (k + j) by omega]
    exact h.cell (k + j) v hv⟩

/-- what a row that the call made is as a slice -/
theorem sl_of_own {w : World} {base : Nat} {e : TypeId} {sz : Nat} {v : Value} {n : Nat} {vs : List Value} (h : w.ownsRow base e sz v n vs) :
    ∃ (oa : Option Addr) (cap g : Nat), v = .slice oa n cap ∧ Sl w oa n cap g 0 sz vs ∧ (0 < n → base ≤ g) := by
  rcases h.2 with ⟨rfl, h0⟩ | ⟨g, cap, cur, rfl, hg, hc, h1, h2, h3, h4⟩
  · subst h0
    refine ⟨none, 0, 0, rfl, ⟨h.1, Nat.le_refl _, Nat.zero_le _, fun hp => absurd hp (Nat.lt_irrefl _), fun j v hv => ?_⟩, fun hp => absurd hp (Nat.lt_irrefl _)⟩
    have h1 := h.1
    have := (List.getElem?_eq_some_iff.1 hv).1
    omega
  · refine ⟨some ⟨g, 0, none⟩, cap, g, rfl, ⟨h.1, h1, h2, fun _ => ⟨rfl, (Array.getElem?_eq_some_iff.1 hc).1⟩, fun j u hu => ?_⟩, fun _ => hg⟩
    rw [Nat.zero_add, cell_of_row w g j cur e (0, 0) hc]
    have hj := (List.getElem?_eq_some_iff.1 hu).1
    rw [← h4, List.getElem?_take] at hu
    split at hu
    · simpa using hu
    · cases hu

end Go.Proofs.Ytgjhaanpkfheeaa

namespace Go.Proofs.Ytgjhaanpkfheeaa
set_option linter.unusedVariables false
set_option linter.unusedSimpArgs false
open Go.RowKit

/-- what the program's table says of a slice's elements -/
structure El (t e : TypeId) (z : Value) (size bytes : Nat) : Prop where
  under : Try.prog.underlying t = some (.slice e)
  info : (Try.prog.info? e).map (fun i => (i.zero, i.size, i.bytes)) = some (some z, size, bytes)
  zs : z.cells.size = size
  pos : 0 < size

/-- where a call stands that makes a row -/
structure Rw (w0 w : World) (e : TypeId) (size : Nat) (v : Value) (n : Nat) (xs : List Value) : Prop where
  below : Below w0.heap.size w0 w
  own : w.ownsRow w0.heap.size e size v n xs

theorem grownBy_of_below {w w' : World} (h : Below w.heap.size w w') (row : Option Nat) : w.grownBy w' row := ⟨h.os, h.tape, h.output, h.size, fun k hk _ => h.block k hk⟩
theorem grownBy_trans {w w1 w2 : World} {row : Option Nat} (h1 : w.grownBy w1 row) (h2 : w1.grownBy w2 row) : w.grownBy w2 row :=
  ⟨h2.os.trans h1.os, h2.tape.trans h1.tape, h2.output.trans h1.output, Nat.le_trans h1.size h2.size, fun k hk hne => (h2.block k (Nat.lt_of_lt_of_le hk h1.size) hne).trans (h1.block k hk hne)⟩
theorem below_far {w0 w1 w2 : World} {row : Option Nat} (h1 : Below w0.heap.size w0 w1) (h2 : w1.grownBy w2 row) (hr : ∀ k, row = some k → w0.heap.size ≤ k) : Below w0.heap.size w0 w2 :=
  ⟨h2.os.trans h1.os, h2.tape.trans h1.tape, h2.output.trans h1.output, Nat.le_trans h1.size h2.size, fun k hk => (h2.block k (Nat.lt_of_lt_of_le hk h1.size) (fun e => by have := hr k e.symm; omega)).trans (h1.block k hk)⟩

section
variable {w0 w w' : World} {e : TypeId} {size : Nat} {v : Value} {n : Nat} {xs : List Value}
theorem Rw.start (w0 : World) (e : TypeId) (size : Nat) : Rw w0 w0 e size (.slice none 0 0) 0 [] := ⟨Below.refl _ _, World.ownsRow_nil _ _ _ _⟩
theorem Rw.first (h : Below w0.heap.size w0 w) : Rw w0 w e size (.slice none 0 0) 0 [] := ⟨h, World.ownsRow_nil _ _ _ _⟩
theorem Rw.sl (h : Rw w0 w e size v n xs) : ∃ (oa : Option Addr) (cap g : Nat), v = .slice oa n cap ∧ Sl w oa n cap g 0 size xs ∧ (0 < n → w0.heap.size ≤ g) := sl_of_own h.own
theorem Rw.base (h : Rw w w' e size v n xs) (hb : Below w0.heap.size w0 w) : Rw w0 w' e size v n xs :=
  ⟨hb.trans (h.below.mono hb.size), h.own.1, by
    rcases h.own.2 with h0 | ⟨g, cap, cur, hv, hg, rest⟩
    · exact .inl h0
    · exact .inr ⟨g, cap, cur, hv, Nat.le_trans hb.size hg, rest⟩⟩
theorem Rw.row (h : Rw w0 w e size v n xs) : ∀ k, v.ownBlock = some k → w0.heap.size ≤ k := fun k hk => (h.own.lt k hk).1
end

end Go.Proofs.Ytgjhaanpkfheeaa
