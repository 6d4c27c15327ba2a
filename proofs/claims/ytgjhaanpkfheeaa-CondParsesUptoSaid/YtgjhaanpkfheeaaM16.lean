/- Of my texts: TokF, TokH. -/
import Derived.Test.YtgjhaanpkfheeaaM15
import Derived.Laws.BytesArg
import Derived.Laws.IdiomStrings
import Derived.Deep.RegionHeld3
namespace Go.Proofs.Ytgjhaanpkfheeaa
set_option linter.unusedVariables false
set_option linter.unusedSimpArgs false
open Go.RowKit

section
variable {w w' : World} {B : Nat} {oa : Option Addr} {cap b o : Nat} {l : List Int} {i : Nat}
end

section
variable {w : World} {B : Nat} {oa : Option Addr} {cap b o : Nat} {l : List Int} {i : Nat}
end

section
variable {w w' w2 : World} {B : Nat} {oa : Option Addr} {cap b o : Nat} {l : List Int} {i j : Nat}
theorem grownBy_set (w : World) (p : Addr) (v : Value) : w.grownBy (w.setCell p v) (some p.block) :=
  ⟨rfl, rfl, rfl, by simp [World.setCell], fun k _ hne => Below.heap_setCell w p v k (fun e => hne (by rw [e]))⟩
end

end Go.Proofs.Ytgjhaanpkfheeaa

namespace Go.Proofs.Ytgjhaanpkfheeaa
set_option linter.unusedVariables false
set_option linter.unusedSimpArgs false
open Go.RowKit

/-- a block that holds bytes, which may be written -/
structure Bl (w : World) (g : Nat) (l : List UInt8) : Prop where
  lt : g < w.heap.size
  cell : ∀ (j : Nat) (c : UInt8), l[j]? = some c → w.cell? ⟨g, j, none⟩ = some (.int .u8 (c.toNat : Int))
  free : ∀ (j : Nat), j < l.length → w.frozen? ⟨g, j, none⟩ = false
theorem Bl.set {w : World} {g : Nat} {l : List UInt8} (h : Bl w g l) {i : Nat} (hi : i < l.length) (c : UInt8) : Bl (w.setCell ⟨g, i, none⟩ (.int .u8 (c.toNat : Int))) g (l.set i c) :=
  ⟨by simpa using h.lt, fun j d hd => by
    by_cases hj : i = j
    · subst hj
      rw [List.getElem?_set_self hi] at hd
      obtain rfl := Option.some.inj hd
      exact World.cell?_setCell_same _ _ _ (h.cell i _ (List.getElem?_eq_getElem hi))
    · rw [List.getElem?_set_ne hj] at hd
      rw [World.cell?_setCell_other _ _ _ _ (by simp [hj])]
      exact h.cell j d hd, fun j hj => (World.frozen?_setCell _ _ _ _).trans (h.free j (by simpa using hj))⟩
theorem frozen_row {w : World} {g j lo hi : Nat} {cs : Array Value} {t : TypeId} (h : w.heap[g]? = some (.cells cs t (lo, hi))) (hj : j < lo) : w.frozen? ⟨g, j, none⟩ = false := by
  unfold World.frozen?
  simp only [h]
  have : decide (lo ≤ j) = false := by simp; omega
  rw [this]
  rfl
theorem bytes_made (m : List UInt8) (w : World) : ∃ (cap : Nat) (w1 : World), (convert 9 134 (.string ⟨m.toArray⟩)).run Try.prog w = .ok (.slice (some ⟨w.heap.size, 0, none⟩) m.length cap) w1 ∧ Below w.heap.size w w1 ∧ Bl w1 w.heap.size m := by
  have h := run_bytes_of_string (P := Try.prog) w 9 134 5 ⟨m.toArray⟩ Try.underlying9 Try.underlying134 Try.underlying5
  refine ⟨_, _, h, ((Below.refl _ _).drew.alloc (Nat.le_refl _) _), by simp, fun i c hc => ?_, fun j hj => ?_⟩
  · obtain ⟨hi, rfl⟩ := List.getElem?_eq_some_iff.1 hc
    rw [cell_of_row _ w.heap.size i _ _ _ (heap_alloc_new w.drew _)]
    exact bytesRow_at ⟨m.toArray⟩ _ i hi
  · have h1 := bytesRow_at ⟨m.toArray⟩ (grownCap w (⟨m.toArray⟩ : ByteArray).size 0 5) j hj
    have h2 := (Array.getElem?_eq_some_iff.1 h1).1
    exact frozen_row (heap_alloc_new w.drew _) h2
theorem Bl.text {w : World} {g : Nat} {l : List UInt8} (h : Bl w g l) (cap : Nat) : (convert 134 9 (.slice (some ⟨g, 0, none⟩) l.length cap)).run Try.prog w = .ok (.string ⟨l.toArray⟩) w :=
  run_convert_bytes_back w _ _ _ ⟨g, 0, none⟩ cap l Try.underlying134 Try.underlying5 Try.underlying9 (fun j hj => by
    rw [Addr.add_lit, Nat.zero_add]
    exact h.cell j _ (List.getElem?_eq_getElem hj))

theorem lowB_up {c : UInt8} (h : 65 ≤ c.toNat ∧ c.toNat ≤ 90) : (lowB c).toNat = c.toNat + 32 := by
  unfold lowB
  rw [if_pos ⟨UInt8.le_iff_toNat_le.2 h.1, UInt8.le_iff_toNat_le.2 h.2⟩, UInt8.toNat_add]
  show (c.toNat + 32) % 256 = _
  omega
theorem lowB_same {c : UInt8} (h : ¬ (65 ≤ c.toNat ∧ c.toNat ≤ 90)) : lowB c = c := by
  unfold lowB
  rw [if_neg (fun e => h ⟨by have := UInt8.le_iff_toNat_le.1 e.1; simpa using this, by have := UInt8.le_iff_toNat_le.1 e.2; simpa using this⟩)]
/-- the first i are made small -/
def lowG (m : List UInt8) (i : Nat) : List UInt8 := lowS (m.take i) ++ m.drop i
theorem lowG_len (m : List UInt8) (i : Nat) : (lowG m i).length = m.length := by
  unfold lowG lowS
  rw [List.length_append, List.length_map, List.length_take, List.length_drop]
  omega
theorem lowG_step {m : List UInt8} {i : Nat} (h : i < m.length) : lowG m (i + 1) = (lowG m i).set i (lowB m[i]) := by
  have e : (lowS (m.take i)).length = i := by unfold lowS; rw [List.length_map, List.length_take]; omega
  unfold lowG
  rw [List.drop_eq_getElem_cons h, List.take_succ_eq_append_getElem h, List.set_append, if_neg (by omega), e, Nat.sub_self, List.set_cons_zero]
  unfold lowS
  rw [List.map_append, List.append_assoc]
  rfl
theorem lowG_at {m : List UInt8} {i : Nat} (h : i < m.length) : (lowG m i)[i]? = some m[i] := by
  have e : (lowS (m.take i)).length = i := by unfold lowS; rw [List.length_map, List.length_take]; omega
  unfold lowG
  rw [List.getElem?_append_right (by omega), e, Nat.sub_self, List.drop_eq_getElem_cons h]
  rfl
theorem lowG_all (m : List UInt8) : lowG m m.length = lowS m := by
  unfold lowG
  rw [List.take_length, List.drop_length, List.append_nil]
end Go.Proofs.Ytgjhaanpkfheeaa
