/- Of my texts: Safe, Copied, Stack, OpenS. -/
import Derived.Test.YtgjhaanpkfheeaaM05
import Derived.Test.YtgjhaanpkfheeaaM08
import Derived.Test.YtgjhaanpkfheeaaM19
import Derived.Test.YtgjhaanpkfheeaaM20
namespace Go.Proofs.Ytgjhaanpkfheeaa
set_option linter.unusedVariables false
set_option linter.unusedSimpArgs false
open Go.RowKit

/-- holds, and goes on to hold while no block but those of A, of those that are, turns -/
def Safe (A : Nat → Prop) (w : World) (φ : World → Prop) : Prop := ∀ w' : World, w.heap.size ≤ w'.heap.size → (∀ b, b < w.heap.size → ¬ A b → w'.heap[b]? = w.heap[b]?) → φ w'

section
variable {A A' : Nat → Prop} {w w' : World} {φ ψ : World → Prop} {row : Option Nat}
theorem Safe.here (h : Safe A w φ) : φ w := h w (Nat.le_refl _) (fun _ _ _ => rfl)
theorem Safe.mono (h : Safe A w φ) (hφ : ∀ w', φ w' → ψ w') : Safe A w ψ := fun w' h1 h2 => hφ w' (h w' h1 h2)
theorem Safe.and (h : Safe A w φ) (h2 : Safe A w ψ) : Safe A w (fun w => φ w ∧ ψ w) := fun w' a b => ⟨h w' a b, h2 w' a b⟩
theorem Safe.anti (h : Safe A w φ) (hA : ∀ b, A' b → b < w.heap.size → A b) : Safe A' w φ := fun w' h1 h2 => h w' h1 fun b hb hn => h2 b hb fun ha => hn (hA b ha hb)
theorem Safe.grown (h : Safe A w φ) (hg : w.grownBy w' row) (hr : ∀ k, row = some k → k < w.heap.size → A k) : Safe A w' φ := fun w2 h1 h2 =>
  h w2 (Nat.le_trans hg.size h1) fun b hb hn => (h2 b (Nat.lt_of_lt_of_le hb hg.size) hn).trans (hg.block b hb fun e => hn (hr b e.symm hb))
theorem Safe.below (h : Safe A w φ) (hb : Below w.heap.size w w') : Safe A w' φ := h.grown (grownBy_of_below hb none) (fun _ e => by cases e)
theorem Safe.grow (h : Safe A w φ) (m : Ext w) : Safe A (Go.Proofs.Ytgjhaanpkfheeaa.grow w m) φ := h.below (grow_below m)
theorem Safe.set (h : Safe A w φ) {p : Addr} (hp : A p.block) (u : Value) : Safe A (w.setCell p u) φ := fun w2 h1 h2 =>
  h w2 (by simpa using h1) fun b hb hn => (h2 b (by simpa using hb) hn).trans (Below.heap_setCell w p u b fun e => hn (e ▸ hp))
theorem Safe.alloc (h : Safe A w φ) (o : Obj) : Safe A (w.alloc o) φ := h.below (below_box w o)
/-- more blocks, which the world does not have yet, may be written -/
theorem Safe.wide (h : Safe A w φ) (hA : ∀ b, A' b → A b ∨ w.heap.size ≤ b) : Safe A' w φ := h.anti fun b hb hl => (hA b hb).resolve_right (by omega)
end

/-- the heap has grown -/
def Hx (w w' : World) : Prop := w.heap.size ≤ w'.heap.size ∧ ∀ b, b < w.heap.size → w'.heap[b]? = w.heap[b]?
theorem Hx.cell {w w' : World} (h : Hx w w') {a : Addr} (ha : a.block < w.heap.size) : w'.cell? a = w.cell? a := by
  simp only [World.cell?]
  rw [h.2 _ ha]
theorem Sl.hx {w w' : World} {oa : Option Addr} {n cap b o sz : Nat} {vs : List Value} (h : Sl w oa n cap b o sz vs) (hb : Hx w w') : Sl w' oa n cap b o sz vs :=
  ⟨h.len, h.le, h.max, fun hp => ⟨(h.lies hp).1, Nat.lt_of_lt_of_le (h.lies hp).2 hb.1⟩, fun j v hv => (hb.cell (a := ⟨b, o + j, none⟩) (h.lies (h.pos hv)).2).trans (h.cell j v hv)⟩
theorem Sl.safe {A : Nat → Prop} {w : World} {oa : Option Addr} {n cap b o sz : Nat} {vs : List Value} (h : Sl w oa n cap b o sz vs) (hA : 0 < n → ¬ A b) : Safe A w fun w => Sl w oa n cap b o sz vs := fun w' h1 h2 =>
  ⟨h.len, h.le, h.max, fun hp => ⟨(h.lies hp).1, Nat.lt_of_lt_of_le (h.lies hp).2 h1⟩, fun j v hv => by
    have hp := h.pos hv
    rw [← h.cell j v hv]
    simp only [World.cell?]
    rw [h2 b (h.lies hp).2 (hA hp)]⟩

theorem VlIn.hx : ∀ (h : Nat) {v : Vl} {w w' : World}, VlIn w h v → Hx w w' → VlIn w' h v
  | 0, _, _, _, hx, _ => hx.elim
  | h + 1, .mk t oa b o cap kids, w, w', hx, hb => ⟨hx.1, hx.2.1, hx.2.2.1.hx hb, fun i x hi => VlIn.hx h (hx.2.2.2 i x hi) hb⟩
theorem VsIn.hx {w w' : World} {h : Nat} {oa : Option Addr} {cap b o : Nat} {l : List Vl} (hs : VsIn w h oa cap b o l) (hb : Hx w w') : VsIn w' h oa cap b o l :=
  ⟨hs.small, hs.sl.hx hb, fun i x hi => (hs.each i x hi).hx h hb⟩
/-- what was there does not hang on what is to come -/
theorem VsIn.safe {w : World} {h : Nat} {oa : Option Addr} {cap b o : Nat} {l : List Vl} (hs : VsIn w h oa cap b o l) : Safe (w.heap.size ≤ ·) w fun w => VsIn w h oa cap b o l := fun _ h1 h2 => hs.hx ⟨h1, fun b hb => h2 b hb (by omega)⟩
/-- values, made in memory -/
theorem VsIn.made {A : Nat → Prop} {w : World} {h : Nat} {oa : Option Addr} {cap b : Nat} {l : List Vl} (h1 : l.length * 72 ≤ 140737488355328) (h2 : Sl w oa l.length cap b 0 7 (l.flatMap vcells)) (hA : 0 < l.length → ¬ A b)
    (h3 : Safe A w fun w => ∀ x ∈ l, VlIn w h x) : Safe A w fun w => VsIn w h oa cap b 0 l := fun w' g1 g2 =>
  ⟨h1, (h2.safe hA) w' g1 g2, fun _ x hi => h3 w' g1 g2 x (List.mem_of_getElem? hi)⟩
theorem VlIn.made {A : Nat → Prop} {w : World} {h : Nat} {t : Tk} {oa : Option Addr} {cap b o : Nat} {l : List Vl} (ht : Tk64 t) (hs : Safe A w fun w => VsIn w h oa cap b o l) : Safe A w fun w => VlIn w (h + 1) (.mk t oa b o cap l) := hs.mono fun _ h => ⟨ht, h.small, h.sl, h.each⟩

/-- an element, built in a block of its own, behind a row: whatever else the world is -/
theorem wpList_add {ops : Array Oper} {rest : List Oper} {o : Oper} {a : Act} {Q : Exit → Act → World → Prop} {base : Nat} {w : World} {t e : TypeId} {z : Value} {size bytes : Nat} (E : El t e z size bytes)
    (hgd : o.guard = none) (s x : Operand) (ho : o.op = .call { callee := .builtin .append, args := #[s, x], argTypes := #[t, t] }) {v : Value} {n : Nat} {xs : List Value} (hs : a.eval s = v)
    (hown : w.ownsRow base e size v n xs) (hbase : base ≤ w.heap.size) {B : Nat} {cs : Array Value} {tc : TypeId} (hB : Blk w B tc cs) (c : Nat) (hx : a.eval x = .slice (some ⟨B, 0, none⟩) 1 c) (hl : cs.toList.length = size) (h1 : ∀ u ∈ cs.toList, u.oneCell' = true)
    (hbytes : (n + 1) * bytes ≤ 140737488355328) (h63 : n + 1 ≤ 140737488355328)
    (h : ∀ g cap w', w'.ownsRow base e size (.slice (some ⟨g, 0, none⟩) (n + 1) cap) (n + 1) (xs ++ cs.toList) → w.grownBy w' v.ownBlock → (v.ownBlock = some g ∨ g = w.heap.size) → (∀ k, v.ownBlock = some k → base ≤ k ∧ k < w.heap.size) → wpList Try.prog ops Q rest (a.put o.dst (.slice (some ⟨g, 0, none⟩) (n + 1) cap)) w') :
    wpList Try.prog ops Q (o :: rest) a w := by
  obtain ⟨i0, hi0, hz0, hz1, hz2⟩ := info_parts E.info
  refine wpList_append_lies _ hgd s x t ho base e i0 z size bytes E.under hi0 hz0 hz1 hz2 E.zs E.pos v n xs hs hown ⟨B, 0, none⟩ 1 c cs.toList hx (by rw [hl, Nat.one_mul])
    (World.news_of_block (cs := cs) (t := tc) (fr := (0, 0)) hB) h1 (by omega) (Nat.le_trans h63 (by decide)) hbytes hbase _ rfl fun g cap w' ho2 hg hat _ => ?_
  exact h g cap w' ho2 hg hat (fun k hk => hown.lt k hk)

def Loose.fw (i : Nat) (d : Tmp) (φ : Value → World → Prop) (hs : ∀ v w1 w2, φ v w1 → Below w1.heap.size w1 w2 → φ v w2) : Loose := ⟨i, d, none, φ, fun _ => none, hs⟩
def Loose.rw (i : Nat) (d : Tmp) (t : TypeId) (k k0 : Nat) (φ : Array Value → World → Prop) (hs : ∀ v w1 w2, φ v w1 → Below w1.heap.size w1 w2 → φ v w2) : Loose :=
  ⟨i, d, none, fun v w => ∃ b cs, v = .slice (some ⟨b, 0, none⟩) k k ∧ k0 ≤ b ∧ φ cs w ∧ Blk w b t cs, ownS, fun _ _ _ ⟨b, cs, h1, h0, hc, h2⟩ hb => ⟨b, cs, h1, h0, hs _ _ _ hc hb, h2.below hb h2.lt⟩⟩
section
variable (V : Nat → Value) (w : World) (i : Nat) (d : Tmp) (φ : Value → World → Prop) (hs : ∀ v w1 w2, φ v w1 → Below w1.heap.size w1 w2 → φ v w2) (cl : List Loose)
theorem Loose.fw_i : (Loose.fw i d φ hs).i = i := rfl
theorem Loose.fw_hush (o : Oper) : (Loose.fw i d φ hs).hush o = { o with dst := none, op := .move (.const undef), guard := none } := rfl
theorem fill_fw (a : Act) : fill V (Loose.fw i d φ hs :: cl) a = fill V cl (a.put (some d) (V i)) := rfl
theorem laws_fw : lawsL V w (Loose.fw i d φ hs :: cl) = (φ (V i) w ∧ lawsL V w cl) := rfl
theorem dist_fw : distL V (Loose.fw i d φ hs :: cl) = distL V cl := by
  have h : ∀ cl : List Loose, distL1 V (Loose.fw i d φ hs) cl := fun cl => distL1_of fun L' _ k k' h => by cases h
  simp [distL, h]
theorem dist1_fw (L : Loose) : distL1 V L (Loose.fw i d φ hs :: cl) = distL1 V L cl := by
  have h : ∀ k k', L.own (V L.i) = some k → (Loose.fw i d φ hs).own (V i) = some k' → k ≠ k' := fun k k' _ h => by cases h
  exact propext ⟨fun h2 => h2.2, fun h2 => ⟨h, h2⟩⟩
end
section
variable (V : Nat → Value) (w : World) (i : Nat) (d : Tmp) (t : TypeId) (k k0 : Nat) (φ : Array Value → World → Prop) (hs : ∀ v w1 w2, φ v w1 → Below w1.heap.size w1 w2 → φ v w2) (cl : List Loose)
theorem Loose.rw_i : (Loose.rw i d t k k0 φ hs).i = i := rfl
theorem Loose.rw_hush (o : Oper) : (Loose.rw i d t k k0 φ hs).hush o = { o with dst := none, op := .move (.const undef), guard := none } := rfl
theorem fill_rw (a : Act) : fill V (Loose.rw i d t k k0 φ hs :: cl) a = fill V cl (a.put (some d) (V i)) := rfl
theorem laws_rw : lawsL V w (Loose.rw i d t k k0 φ hs :: cl) = ((∃ b cs, V i = .slice (some ⟨b, 0, none⟩) k k ∧ k0 ≤ b ∧ φ cs w ∧ Blk w b t cs) ∧ lawsL V w cl) := rfl
theorem dist_rw : distL V (Loose.rw i d t k k0 φ hs :: cl) = (distL1 V (Loose.rw i d t k k0 φ hs) cl ∧ distL V cl) := rfl
end
theorem post_fw {i : Nat} {d : Tmp} {φ : Value → World → Prop} {hs : ∀ v w1 w2, φ v w1 → Below w1.heap.size w1 w2 → φ v w2} {v : Value} {F : Act} {w w' : World} {a : Act} (h : a = F.put (some d) v) (hv : φ v w') (hb : Below w.heap.size w w') : PostL (Loose.fw i d φ hs) F w .normal a w' :=
  ⟨rfl, _, h, hb, hv, fun k hk => (by cases hk), fun c2 hc => (by cases hc)⟩
theorem post_rw {k0 : Nat} {i : Nat} {d : Tmp} {t : TypeId} {k : Nat} {φ : Array Value → World → Prop} {hs : ∀ v w1 w2, φ v w1 → Below w1.heap.size w1 w2 → φ v w2} {cs : Array Value} {F : Act} {w : World} {a : Act} (h : a = F.put (some d) (.slice (some ⟨w.heap.size, 0, none⟩) k k)) (hk : k0 ≤ w.heap.size) (hc : φ cs w) : PostL (Loose.rw i d t k k0 φ hs) F w .normal a (w.alloc (.cells cs t)) :=
  ⟨rfl, _, h, below_box _ _, ⟨_, _, rfl, hk, hs _ _ _ hc (below_box _ _), Blk.new _ _ _⟩, fun k2 hk => by
    simp only [Loose.rw, ownS, Option.some.injEq] at hk
    subst hk
    simp, fun c hc => by cases hc⟩

end Go.Proofs.Ytgjhaanpkfheeaa

namespace Go.Proofs.Ytgjhaanpkfheeaa
set_option linter.unusedVariables false
set_option linter.unusedSimpArgs false
open Go.RowKit

theorem elVal : El 61 74 (.agg #[.int .i64 0, .string ⟨#[]⟩, .int .i64 0, .int .i64 0, .bool false, .bool false, .slice none 0 0]) 7 72 := ⟨Try.underlying61, by kernel_rfl, rfl, by decide⟩

/-- these values are the slice v; they lie clear of A -/
def isVs (A : Nat → Prop) (h : Nat) (X : List Vt) (v : Value) (w : World) : Prop := ∃ (oa : Option Addr) (cap b o : Nat) (l : List Vl), v = .slice oa l.length cap ∧ l.map Vl.c = X ∧ Safe A w fun w => VsIn w h oa cap b o l
theorem isVs.anti {A A' : Nat → Prop} {h : Nat} {X : List Vt} {v : Value} {w : World} (hv : isVs A h X v w) (hA : ∀ b, A' b → A b ∨ w.heap.size ≤ b) : isVs A' h X v w := by
  obtain ⟨oa, cap, b, o, l, hv, hc, hs⟩ := hv
  exact ⟨oa, cap, b, o, l, hv, hc, hs.wide hA⟩

end Go.Proofs.Ytgjhaanpkfheeaa

namespace Go.Proofs.Ytgjhaanpkfheeaa
set_option linter.unusedVariables false
set_option linter.unusedSimpArgs false
open Go.RowKit

/-- so many cells are written, one behind the other -/
def puts (w : World) (g : Nat) : Nat → List Value → World
  | _, [] => w
  | o, v :: r => puts (w.setCell ⟨g, o, none⟩ v) g (o + 1) r
theorem grownBy_refl (w : World) (row : Option Nat) : w.grownBy w row := ⟨rfl, rfl, rfl, Nat.le_refl _, fun _ _ _ => rfl⟩
theorem grownBy_puts : ∀ (cs : List Value) (w : World) (g o : Nat), w.grownBy (puts w g o cs) (some g)
  | [], w, g, _ => grownBy_refl w _
  | v :: r, w, g, o => grownBy_trans (grownBy_set w ⟨g, o, none⟩ v) (grownBy_puts r _ g (o + 1))
theorem puts_size : ∀ (cs : List Value) (w : World) (g o : Nat), (puts w g o cs).heap.size = w.heap.size
  | [], _, _, _ => rfl
  | v :: r, w, g, o => (puts_size r _ g (o + 1)).trans (by simp)

/-- a cell of a row of the call's own is written -/
theorem owns_setAt {w : World} {base : Nat} {e : TypeId} {size n cap g : Nat} {xs : List Value} (h : w.ownsRow base e size (.slice (some ⟨g, 0, none⟩) n cap) n xs) {i : Nat} (hi : i < n * size) (u : Value) :
    (w.setCell ⟨g, i, none⟩ u).ownsRow base e size (.slice (some ⟨g, 0, none⟩) n cap) n (xs.set i u) := by
  rcases h.2 with ⟨h0, _⟩ | ⟨g', cap', cur, hv, hg, hc, h1, h2, h3, h4⟩
  · cases h0
  · obtain ⟨rfl, rfl⟩ : g = g' ∧ cap = cap' := by
      injection hv with e1 _ e2
      injection e1 with e1
      injection e1 with e1
      exact ⟨e1, e2⟩
    have hisz : i < cur.size := by
      rw [h3]
      exact Nat.lt_of_lt_of_le hi (Nat.mul_le_mul_right size h1)
    refine ⟨by rw [List.length_set]; exact h.1, Or.inr ⟨g, cap, cur.setIfInBounds i u, rfl, hg, ?_, h1, h2, by simpa using h3, ?_⟩⟩
    · have hb : Blk w g e cur := hc
      exact hb.put i u
    · rw [Array.toList_setIfInBounds, List.take_set, h4]
theorem owns_puts {base : Nat} {e : TypeId} {size n cap g : Nat} : ∀ (cs : List Value) (o : Nat) (w : World) (xs ys : List Value), w.ownsRow base e size (.slice (some ⟨g, 0, none⟩) n cap) n (xs ++ ys) → xs.length = o → ys.length = cs.length → o + cs.length ≤ n * size →
    (puts w g o cs).ownsRow base e size (.slice (some ⟨g, 0, none⟩) n cap) n (xs ++ cs)
  | [], o, w, xs, ys, h, _, hl, _ => by
    have : ys = [] := List.eq_nil_of_length_eq_zero hl
    subst this
    exact h
  | v :: r, o, w, xs, [], h, _, hl, _ => by cases hl
  | v :: r, o, w, xs, y :: ys, h, hx, hl, hn => by
    have h1 := owns_setAt h (i := o) (by simp at hn; omega) v
    have e : (xs ++ y :: ys).set o v = (xs ++ [v]) ++ ys := by
      rw [List.set_append, if_neg (by omega), hx, Nat.sub_self, List.set_cons_zero, List.append_assoc]
      rfl
    rw [e] at h1
    have h2 := owns_puts r (o + 1) _ (xs ++ [v]) ys h1 (by simp [hx]) (by simpa using hl) (by simp at hn ⊢; omega)
    rw [List.append_assoc] at h2
    exact h2
theorem owns_frozen {w : World} {base : Nat} {e : TypeId} {size n cap g : Nat} {xs : List Value} (h : w.ownsRow base e size (.slice (some ⟨g, 0, none⟩) n cap) n xs) (i : Nat) : w.frozen? ⟨g, i, none⟩ = false := by
  rcases h.2 with ⟨h0, _⟩ | ⟨g', cap', cur, hv, hg, hc, _⟩
  · cases h0
  · have : g = g' := by
      injection hv with e1 _ e2
      injection e1 with e1
      injection e1 with e1
    subst this
    have hb : Blk w g e cur := hc
    exact hb.frozen i
theorem owns_cell {w : World} {base : Nat} {e : TypeId} {size n cap g : Nat} {xs : List Value} (h : w.ownsRow base e size (.slice (some ⟨g, 0, none⟩) n cap) n xs) {i : Nat} {u : Value} (hu : xs[i]? = some u) : w.cell? ⟨g, i, none⟩ = some u := by
  rcases h.2 with ⟨h0, _⟩ | ⟨g', cap', cur, hv, hg, hc, h1, h2, h3, h4⟩
  · cases h0
  · have : g = g' := by
      injection hv with e1 _ e2
      injection e1 with e1
      injection e1 with e1
    subst this
    have hb : Blk w g e cur := hc
    rw [hb.cell i]
    have hj := (List.getElem?_eq_some_iff.1 hu).1
    rw [← h4, List.getElem?_take] at hu
    split at hu
    · simpa using hu
    · cases hu
theorem owns_lt {w : World} {base : Nat} {e : TypeId} {size n cap g : Nat} {xs : List Value} (h : w.ownsRow base e size (.slice (some ⟨g, 0, none⟩) n cap) n xs) : base ≤ g ∧ g < w.heap.size := h.lt g rfl
theorem owns_cap {w : World} {base : Nat} {e : TypeId} {size n cap g : Nat} {xs : List Value} (h : w.ownsRow base e size (.slice (some ⟨g, 0, none⟩) n cap) n xs) : n ≤ cap ∧ cap ≤ maxLen := by
  rcases h.2 with ⟨h0, _⟩ | ⟨g', cap', cur, hv, hg, hc, h1, h2, h3, h4⟩
  · cases h0
  · injection hv with _ _ e2
    subst e2
    exact ⟨h1, h2⟩
/-- the first of a row's elements are a row -/
theorem owns_take {w : World} {base : Nat} {e : TypeId} {size n cap g : Nat} {xs : List Value} (h : w.ownsRow base e size (.slice (some ⟨g, 0, none⟩) n cap) n xs) {k : Nat} (hk : k ≤ n) : w.ownsRow base e size (.slice (some ⟨g, 0, none⟩) k cap) k (xs.take (k * size)) := by
  have hks := Nat.mul_le_mul_right size hk
  rcases h.2 with ⟨h0, _⟩ | ⟨g', cap', cur, hv, hg, hc, h1, h2, h3, h4⟩
  · cases h0
  · obtain ⟨rfl, rfl⟩ : g = g' ∧ cap = cap' := by
      injection hv with e1 _ e2
      injection e1 with e1
      injection e1 with e1
      exact ⟨e1, e2⟩
    refine ⟨by rw [List.length_take, h.1]; omega, Or.inr ⟨g, cap, cur, rfl, hg, hc, by omega, h2, h3, ?_⟩⟩
    rw [← h4, List.take_take, Nat.min_eq_left hks]
/-- rows of elements of two types are two rows -/
theorem owns_apart {w : World} {base base' : Nat} {e e' : TypeId} {size size' : Nat} {v v' : Value} {n n' : Nat} {xs xs' : List Value} (h : w.ownsRow base e size v n xs) (h' : w.ownsRow base' e' size' v' n' xs') (he : e ≠ e') {g : Nat} (hg : v.ownBlock = some g) : v'.ownBlock ≠ some g := by
  intro hg'
  rcases h.2 with ⟨h0, _⟩ | ⟨g1, cap1, cur1, hv, _, hc, _⟩
  · subst h0; cases hg
  · rcases h'.2 with ⟨h0, _⟩ | ⟨g2, cap2, cur2, hv', _, hc', _⟩
    · subst h0; cases hg'
    · subst hv hv'
      obtain rfl := Option.some.inj hg
      obtain rfl := Option.some.inj hg'
      simp only at hc hc'
      rw [hc] at hc'
      injection hc' with hc'
      injection hc' with _ hc' _
      exact he hc'
/-- a block that is known whole is no row of elements of another type -/
theorem blk_apart {w : World} {base : Nat} {e t : TypeId} {size : Nat} {v : Value} {n : Nat} {xs : List Value} {B : Nat} {cs : Array Value} (hB : Blk w B t cs) (h : w.ownsRow base e size v n xs) (he : e ≠ t) : v.ownBlock ≠ some B := by
  intro hg'
  rcases h.2 with ⟨h0, _⟩ | ⟨g2, cap2, cur2, hv', _, hc', _⟩
  · subst h0; cases hg'
  · subst hv'
    obtain rfl := Option.some.inj hg'
    unfold Blk at hB
    rw [hB] at hc'
    injection hc' with hc'
    injection hc' with _ hc' _
    exact he hc'.symm

/-- what is open: its token, the slice of what stands in it, that -/
structure Fm where
  t : Tk
  v : Value
  kids : List Vl
section
variable {B K : Nat} {w w' : World} {vs : Value} {S R : List Fm}
end

end Go.Proofs.Ytgjhaanpkfheeaa

namespace Go.Proofs.Ytgjhaanpkfheeaa
set_option linter.unusedVariables false
set_option linter.unusedSimpArgs false
open Go.ChangeShapes Go.WideShapes Go.ChangeAt Go.RowKit Go.Deep

theorem szV_map : ∀ l : List Vl, szV (l.map Vl.c) = (l.map fun v => szV1 v.c).sum
  | [] => rfl
  | x :: r => by rw [List.map_cons, szV, szV_map r, List.map_cons, List.sum_cons]
theorem szV_sum (f : Nat → Vl) (n : Nat) : szV (((List.range n).map f).map Vl.c) = ((List.range n).map fun i => szV1 (f i).c).sum := by
  rw [szV_map, List.map_map]
  rfl
section
variable {H : Type} {enc : TypeId × Value → H} {w : World} {base : Nat} {spare : Nat → Bool} {held : Bool}

theorem bulk_sum {l : List (DataW H × List MemPlace)} (f : Nat → Nat) (h : ∀ i y, l[i]? = some y → f i ≤ Rows.uptoBulk y.1) : ((List.range l.length).map f).sum ≤ Rows.uptoBulkAll (l.map (·.1)) := by
  induction l generalizing f with
  | nil => simp
  | cons y l ih =>
    have h0 := h 0 y rfl
    have := ih (fun i => f (i + 1)) (fun i z hz => h (i + 1) z (by simpa using hz))
    simp only [List.length_cons, List.range_succ_eq_map, List.map_cons, List.map_map, List.sum_cons, Rows.uptoBulkAll]
    have e : ((List.range l.length).map (f ∘ Nat.succ)).sum = ((List.range l.length).map fun i => f (i + 1)).sum := rfl
    omega

set_option maxRecDepth 100000 in
theorem open_vlS : ∀ (fuel : Nat) (cs : List Value) (x : DataW H × List MemPlace), DataW.trod enc Try.prog w base spare held fuel 74 cs = some x → (∀ n ∈ x.1.weights Try.prog 74, n ≤ 140737488355328) →
    ∃ v : Vl, cs = vcells v ∧ VlIn w fuel v ∧ szV1 v.c ≤ Rows.uptoBulk x.1 := by
  intro fuel
  induction fuel using Nat.strongRecOn with
  | _ fuel ih =>
    intro cs x h hw
    obtain ⟨xs, n, rfl, rfl, hl, hlen, hf⟩ := DataW.trod_struct Try.underlying74 h
    obtain ⟨y0, y1, rfl⟩ := two hlen
    obtain ⟨c0, c1, c2, c3, c4, c5, c6, rfl⟩ := seven (hl.trans cellsValue)
    have g0 := hf 0 _ rfl
    have g1 := hf 1 _ rfl
    simp only [List.getElem_toArray, List.getElem_cons_zero, List.getElem_cons_succ, cellsToken, cellsValues, List.drop_zero, List.drop_succ_cons, List.take_succ_cons, List.take_zero, List.getElem?_cons_zero, List.getElem?_cons_succ] at g0 g1
    obtain ⟨t, et, h64⟩ := open_tk n _ _ g0
    have e7 : ∀ u : Value, [c0, c1, c2, c3, c4, c5, u] = tkcells t ++ [u] := fun u => by rw [← et]; rfl
    rcases DataW.trod_slice Try.underlying61 g1 with ⟨hc, hd⟩ | ⟨a, len, cap, elems, rest, m2, hm2, hc, hd, hb, hle, hcm, hel, hall, _, _⟩
    · simp only [List.cons.injEq, and_true] at hc
      subst hc
      exact ⟨.mk t none 0 0 0 [], e7 _, ⟨h64, by simp, ⟨rfl, Nat.le_refl _, Nat.zero_le _, fun h => absurd h (by simp), fun j v h => by simp at h⟩, fun i x h => by simp at h⟩, by
        rw [Vl.c_mk, szV1]
        simp only [Rows.uptoBulk, Rows.uptoBulkAll, List.map_cons, List.map_nil, szV]
        omega⟩
    · simp only [List.cons.injEq, and_true] at hc
      subst hc
      have hwt : ∀ nn ∈ (DataW.slice (elems.map (·.1)) (rest.map (·.1)) : DataW H).weights Try.prog 61, nn ≤ 140737488355328 := fun nn hn => hw nn (by
        simp only [DataW.weights, Try.underlying74, List.map_cons, List.map_nil, DataW.weightsEach, List.mem_append]
        exact Or.inr (Or.inl (by rw [hd]; exact hn)))
      simp only [DataW.weights, Try.underlying61, bytesValue, List.length_map, List.mem_cons, List.mem_append] at hwt
      have hw0 := hwt _ (Or.inl rfl)
      have hm2n : m2 < n := by omega
      have each : ∀ i, i < len → ∃ v : Vl, (∀ j u, (vcells v)[j]? = some u → w.cell? ((a.add (i * 7)).add j) = some u) ∧ VlIn w m2 v ∧ ∀ y, elems[i]? = some y → szV1 v.c ≤ Rows.uptoBulk y.1 := fun i hi => by
        have hi' := hall i hi
        rw [cellsValue] at hi'
        obtain ⟨y, hy⟩ : ∃ y, elems[i]? = some y := ⟨elems[i]'(by omega), List.getElem?_eq_getElem (by omega)⟩
        rw [hy] at hi'
        obtain ⟨cs', hcs, hy'⟩ := Option.bind_eq_some_iff.1 hi'
        obtain ⟨_, hcl, hcell⟩ := World.cells?_some hcs
        obtain ⟨v, rfl, hv, hsz⟩ := ih m2 (by omega) cs' y hy' (fun n hn => hwt n (Or.inr (Or.inl (open_ex.weights_all hy hn))))
        refine ⟨v, fun j u hj => ?_, hv, fun z hz => by rw [hy] at hz; obtain rfl := Option.some.inj hz; exact hsz⟩
        have hj7 : j < 7 := by have := (List.getElem?_eq_some_iff.1 hj).1; rw [vcells_length] at this; exact this
        exact (hcell j hj7).trans hj
      obtain ⟨f, hf⟩ := choose_lt each
      obtain ⟨ab, ao, asp⟩ := a
      have hsp : 0 < len → asp = none ∧ ab < w.heap.size := fun hpos => by
        obtain ⟨v, hv⟩ : ∃ v, (vcells (f 0))[0]? = some v := by cases f 0; exact ⟨_, rfl⟩
        have hc := (hf 0 hpos).1 0 v hv
        refine ⟨by simpa [Addr.add] using World.cell?_spot hc, by simpa [Addr.add] using World.block_lt_of_cell? w _ hc⟩
      have hat : ∀ i x, ((List.range len).map f)[i]? = some x → i < len ∧ x = f i := fun i x hx => by
        rw [List.getElem?_map] at hx
        rcases Nat.lt_or_ge i len with hi | hi
        · rw [List.getElem?_range hi] at hx
          exact ⟨hi, (Option.some.inj hx).symm⟩
        · rw [List.getElem?_eq_none (by simpa using hi)] at hx
          cases hx
      refine ⟨.mk t (some ⟨ab, ao, asp⟩) ab ao cap ((List.range len).map f), ?_, ⟨h64, by simp; omega, ⟨by rw [flat_length vcells_length], by simpa using hle, hcm, fun hpos => ?_, fun k u hk => ?_⟩, fun i x hx => ?_⟩, ?_⟩
      · simp only [vcells, List.length_map, List.length_range]
        exact e7 _
      · simp only [List.length_map, List.length_range] at hpos
        exact ⟨by rw [(hsp hpos).1], (hsp hpos).2⟩
      · obtain ⟨i, x, j, h1, h2, rfl⟩ := flat_split vcells_length (by decide) _ _ _ hk
        obtain ⟨hi, rfl⟩ := hat i x h1
        obtain ⟨rfl, _⟩ := hsp (by omega)
        have := (hf i hi).1 j u h2
        rw [Addr.add_lit, Addr.add_lit] at this
        rw [show ao + (i * 7 + j) = ao + i * 7 + j by omega]
        exact this
      · obtain ⟨hi, rfl⟩ := hat i x hx
        exact (hf i hi).2.1.mono _ _ (by omega)
      · have hb2 := bulk_sum (l := elems) (fun i => szV1 (f i).c) (fun i y hy => (hf i (by have := (List.getElem?_eq_some_iff.1 hy).1; omega)).2.2 y hy)
        rw [hel] at hb2
        rw [Vl.c_mk, szV1, szV_sum]
        simp only [Rows.uptoBulk, Rows.uptoBulkAll, List.map_cons, List.map_nil]
        rw [hd]
        simp only [Rows.uptoBulk]
        omega

set_option maxRecDepth 100000 in
theorem open_vlsS {r : Reach} {b0 : Nat} {v : Value} {d : DataW H} {p : List MemPlace} (hv : Value.okWide Try.prog w r b0 61 v) (h : DataW.Trod enc Try.prog w base spare held 61 v d p)
    (hw : ∀ n ∈ d.weights Try.prog 61, n ≤ 140737488355328) : ∃ (oa : Option Addr) (cap b o : Nat) (l : List Vl) (h : Nat), v = .slice oa l.length cap ∧ VsIn w h oa cap b o l ∧ szV (l.map Vl.c) ≤ Rows.uptoBulk d := by
  obtain ⟨oa, len, cap, rfl⟩ := okWide_slice Try.underlying61 hv
  obtain ⟨fuel, g1⟩ := h
  rcases DataW.trod_slice Try.underlying61 g1 with ⟨hc, hd⟩ | ⟨a, len', cap', elems, rest, m2, hm2, hc, hd, hb, hle, hcm, hel, hall, _, _⟩
  · obtain ⟨rfl, rfl, rfl⟩ : oa = none ∧ len = 0 ∧ cap = 0 := by simpa [Value.cells] using hc
    exact ⟨none, 0, 0, 0, [], 0, rfl, ⟨by simp, ⟨rfl, Nat.le_refl _, Nat.zero_le _, fun h => absurd h (by simp), fun j v h => by simp at h⟩, fun i x h => by simp at h⟩, by simp [szV]⟩
  · obtain ⟨rfl, rfl, rfl⟩ : oa = some a ∧ len = len' ∧ cap = cap' := by simpa [Value.cells] using hc
    simp only [Prod.mk.injEq] at hd
    obtain ⟨hd, _⟩ := hd
    have hd2 := hd
    rw [hd] at hw
    simp only [DataW.weights, Try.underlying61, bytesValue, List.length_map, List.mem_cons, List.mem_append] at hw
    have hw0 := hw _ (Or.inl rfl)
    have each : ∀ i, i < len → ∃ v : Vl, (∀ j u, (vcells v)[j]? = some u → w.cell? ((a.add (i * 7)).add j) = some u) ∧ VlIn w m2 v ∧ ∀ y, elems[i]? = some y → szV1 v.c ≤ Rows.uptoBulk y.1 := fun i hi => by
      have hi' := hall i hi
      rw [cellsValue] at hi'
      obtain ⟨y, hy⟩ : ∃ y, elems[i]? = some y := ⟨elems[i]'(by omega), List.getElem?_eq_getElem (by omega)⟩
      rw [hy] at hi'
      obtain ⟨cs', hcs, hy'⟩ := Option.bind_eq_some_iff.1 hi'
      obtain ⟨_, hcl, hcell⟩ := World.cells?_some hcs
      obtain ⟨v, rfl, hv, hsz⟩ := open_vlS m2 cs' y hy' (fun n hn => hw n (Or.inr (Or.inl (open_ex.weights_all hy hn))))
      refine ⟨v, fun j u hj => ?_, hv, fun z hz => by rw [hy] at hz; obtain rfl := Option.some.inj hz; exact hsz⟩
      have hj7 : j < 7 := by have := (List.getElem?_eq_some_iff.1 hj).1; rw [vcells_length] at this; exact this
      exact (hcell j hj7).trans hj
    obtain ⟨f, hf⟩ := choose_lt each
    obtain ⟨ab, ao, asp⟩ := a
    have hsp : 0 < len → asp = none ∧ ab < w.heap.size := fun hpos => by
      obtain ⟨v, hv⟩ : ∃ v, (vcells (f 0))[0]? = some v := by cases f 0; exact ⟨_, rfl⟩
      have hc := (hf 0 hpos).1 0 v hv
      refine ⟨by simpa [Addr.add] using World.cell?_spot hc, by simpa [Addr.add] using World.block_lt_of_cell? w _ hc⟩
    have hat : ∀ i x, ((List.range len).map f)[i]? = some x → i < len ∧ x = f i := fun i x hx => by
      rw [List.getElem?_map] at hx
      rcases Nat.lt_or_ge i len with hi | hi
      · rw [List.getElem?_range hi] at hx
        exact ⟨hi, (Option.some.inj hx).symm⟩
      · rw [List.getElem?_eq_none (by simpa using hi)] at hx
        cases hx
    refine ⟨some ⟨ab, ao, asp⟩, cap, ab, ao, (List.range len).map f, m2, by simp, ⟨by simp; omega, ⟨by rw [flat_length vcells_length], by simpa using hle, hcm, fun hpos => ?_, fun k u hk => ?_⟩, fun i x hx => ?_⟩, ?_⟩
    · simp only [List.length_map, List.length_range] at hpos
      exact ⟨by rw [(hsp hpos).1], (hsp hpos).2⟩
    · obtain ⟨i, x, j, h1, h2, rfl⟩ := flat_split vcells_length (by decide) _ _ _ hk
      obtain ⟨hi, rfl⟩ := hat i x h1
      obtain ⟨rfl, _⟩ := hsp (by omega)
      have := (hf i hi).1 j u h2
      rw [Addr.add_lit, Addr.add_lit] at this
      rw [show ao + (i * 7 + j) = ao + i * 7 + j by omega]
      exact this
    · obtain ⟨hi, rfl⟩ := hat i x hx
      exact (hf i hi).2.1
    · have hb2 := bulk_sum (l := elems) (fun i => szV1 (f i).c) (fun i y hy => (hf i (by have := (List.getElem?_eq_some_iff.1 hy).1; omega)).2.2 y hy)
      rw [hel] at hb2
      rw [szV_sum, hd2]
      simp only [Rows.uptoBulk]
      omega

end

end Go.Proofs.Ytgjhaanpkfheeaa
