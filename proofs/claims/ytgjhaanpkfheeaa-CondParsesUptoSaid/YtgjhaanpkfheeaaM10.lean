/- Of my texts: Tree, MayE. -/
import Derived.Test.YtgjhaanpkfheeaaM03
import Derived.Test.YtgjhaanpkfheeaaM04
import Derived.Test.YtgjhaanpkfheeaaM09
import Derived.Deep.LoopGhost
import Derived.Deep.CutBlock
import Derived.Deep.DeepCutAuto
namespace Go.Proofs.Ytgjhaanpkfheeaa
set_option linter.unusedVariables false
set_option linter.unusedSimpArgs false
open Go.RowKit

/-- an expression, with the place of its kids -/
inductive Ex where
  | mk (k n d u : Int) (oa : Option Addr) (b o cap : Nat) (kids : List Ex)

/-- its cells -/
def xcells : Ex → List Value
  | .mk k n d u oa _ _ cap kids => [.int .i64 k, .int .i64 n, .int .i64 d, .int .i64 u, .slice oa kids.length cap]
def xv (e : Ex) : Value := .agg (xcells e).toArray

/-- a number of 64 bits -/
def I64 (x : Int) : Prop := -9223372036854775808 ≤ x ∧ x ≤ 9223372036854775807

/-- the expression lies in the world; its height is below h -/
def ExIn (w : World) : Nat → Ex → Prop
  | 0, _ => False
  | h + 1, .mk k n d u oa b o cap kids => I64 k ∧ Is64 (n, d) ∧ I64 u ∧ kids.length ≤ cap ∧ cap ≤ maxLen ∧ kids.length * 56 ≤ 140737488355328 ∧ (0 < kids.length → oa = some ⟨b, o, none⟩ ∧ b < w.heap.size) ∧
    ∀ i x, kids[i]? = some x → (∀ j v, (xcells x)[j]? = some v → w.cell? ⟨b, o + i * 5 + j, none⟩ = some v) ∧ ExIn w h x

theorem ExIn.below : ∀ (h : Nat) {e : Ex} {w w' : World}, ExIn w h e → Below w.heap.size w w' → ExIn w' h e
  | 0, _, _, _, h, _ => h.elim
  | h + 1, .mk k n d u oa b o cap kids, w, w', hx, hb => by
    obtain ⟨h1, h2, h3, h4, h5, h6, h7, h8⟩ := hx
    refine ⟨h1, h2, h3, h4, h5, h6, fun hl => ⟨(h7 hl).1, Nat.lt_of_lt_of_le (h7 hl).2 hb.size⟩, fun i x hi => ⟨fun j v hv => ?_, ExIn.below h (h8 i x hi).2 hb⟩⟩
    have hpos : 0 < kids.length := by have := (List.getElem?_eq_some_iff.1 hi).1; omega
    exact (hb.cell (p := ⟨b, o + i * 5 + j, none⟩) (h7 hpos).2).trans ((h8 i x hi).1 j v hv)

theorem ExIn.grow {h : Nat} {e : Ex} {w : World} (hx : ExIn w h e) (m : Ext w) : ExIn (grow w m) h e := hx.below h (grow_below m)

/-- the same, whatever is nothing -/
def zeroE : Ex → Bool
  | .mk k n d u _ _ _ _ kids => decide (k = 0) && (decide (n = 0) && decide (d = 0)) && decide (u = 0) && decide (kids.length = 0)

/-- a leaf -/
structure Lf where
  kind : Int
  truth : Int
  name : ByteArray
  op : Int
  ex : Ex
  word : ByteArray
  value : ByteArray
  any : Bool

def lcells (l : Lf) : List Value := [.int .i64 l.kind, .int .i64 l.truth, .string l.name, .int .i64 l.op] ++ xcells l.ex ++ [.string l.word, .string l.value, .bool l.any]

def lv (l : Lf) : Value := .agg (lcells l).toArray

def LfIn (w : World) (h : Nat) (l : Lf) : Prop := I64 l.kind ∧ I64 l.truth ∧ I64 l.op ∧ ExIn w h l.ex
theorem LfIn.below {w w' : World} {h : Nat} {l : Lf} (hl : LfIn w h l) (hb : Below w.heap.size w w') : LfIn w' h l := ⟨hl.1, hl.2.1, hl.2.2.1, hl.2.2.2.below h hb⟩

/-- a condition, with the place of its kids -/
inductive Cd where
  | mk (k : Int) (oa : Option Addr) (b o cap : Nat) (kids : List Cd) (leaf : Lf)

def ccells : Cd → List Value
  | .mk k oa _ _ cap kids leaf => [.int .i64 k, .slice oa kids.length cap] ++ lcells leaf

def cv (c : Cd) : Value := .agg (ccells c).toArray

/-- the condition lies in the world; its height is below h -/
def CdIn (w : World) : Nat → Cd → Prop
  | 0, _ => False
  | h + 1, .mk k oa b o cap kids leaf => I64 k ∧ LfIn w h leaf ∧ kids.length ≤ cap ∧ cap ≤ maxLen ∧ kids.length * 8 ≤ 140737488355328 ∧ (0 < kids.length → oa = some ⟨b, o, none⟩ ∧ b < w.heap.size) ∧
    ∀ i x, kids[i]? = some x → (∀ j v, (ccells x)[j]? = some v → w.cell? ⟨b, o + i * 14 + j, none⟩ = some v) ∧ CdIn w h x

theorem CdIn.below : ∀ (h : Nat) {e : Cd} {w w' : World}, CdIn w h e → Below w.heap.size w w' → CdIn w' h e
  | 0, _, _, _, h, _ => h.elim
  | h + 1, .mk k oa b o cap kids leaf, w, w', hx, hb => by
    obtain ⟨h1, h2, h4, h5, h6, h7, h8⟩ := hx
    refine ⟨h1, h2.below hb, h4, h5, h6, fun hl => ⟨(h7 hl).1, Nat.lt_of_lt_of_le (h7 hl).2 hb.size⟩, fun i x hi => ⟨fun j v hv => ?_, CdIn.below h (h8 i x hi).2 hb⟩⟩
    have hpos : 0 < kids.length := by have := (List.getElem?_eq_some_iff.1 hi).1; omega
    exact (hb.cell (p := ⟨b, o + i * 14 + j, none⟩) (h7 hpos).2).trans ((h8 i x hi).1 j v hv)

/-- whether two leaves are the same, by whether their expressions are -/
def likeB (l m : Lf) (B : Bool) : Bool := (l.kind == m.kind) && (l.truth == m.truth) && (l.name.toList == m.name.toList) && (l.op == m.op) && B && (l.word.toList == m.word.toList) && (l.value.toList == m.value.toList) && (l.any == m.any)
def zeroX : Ex := .mk 0 0 0 0 none 0 0 0 []
end Go.Proofs.Ytgjhaanpkfheeaa

namespace Go.Proofs.Ytgjhaanpkfheeaa
set_option linter.unusedVariables false
set_option linter.unusedSimpArgs false
open Go.RowKit

theorem xv_mk (k n d u : Int) (oa : Option Addr) (b o cap : Nat) (kids : List Ex) : xv (.mk k n d u oa b o cap kids) = .agg #[.int .i64 k, .int .i64 n, .int .i64 d, .int .i64 u, .slice oa kids.length cap] := rfl

end Go.Proofs.Ytgjhaanpkfheeaa
