/- Of my texts: Gm, ToldM, Told, Trap. -/
import Derived.Test.YtgjhaanpkfheeaaM05
import Derived.Test.YtgjhaanpkfheeaaM08
import Derived.Test.YtgjhaanpkfheeaaM20
import Derived.Test.YtgjhaanpkfheeaaM23
import Derived.Recover
import Derived.Tactics2
namespace Go.Proofs.Ytgjhaanpkfheeaa
set_option linter.unusedVariables false
set_option linter.unusedSimpArgs false
open Go.RowKit

def shutT : List (Tk × List Tk) → List (Tk × List Tk)
  | (t, k) :: (t', k') :: r => (t', k' ++ [t]) :: r
  | s => s
def stepT : List (Tk × List Tk) → Tk → List (Tk × List Tk)
  | [], _ => []
  | (t0, k0) :: r, t => if r ≠ [] ∧ t.kind = closeF t0.kind then shutT ((t0, k0) :: r) else if closeF t.kind ≠ 0 then (t, []) :: (t0, k0) :: r else (t0, k0 ++ [t]) :: r
def closeT : Nat → List (Tk × List Tk) → List (Tk × List Tk)
  | 0, s => s
  | n + 1, s => if 2 ≤ s.length then closeT n (shutT s) else s
def firstT : List (Tk × List Tk) → List Tk
  | (_, k) :: _ => k
  | [] => []
def valuesT (l : List Tk) : List Tk := firstT (closeT (l.foldl stepT [(zeroTk, [])]).length (l.foldl stepT [(zeroTk, [])]))
def tokS (s : List (Tk × List Vt)) : List (Tk × List Tk) := s.map fun x => (x.1, x.2.map Vt.tok)
theorem shut_tok (s : List (Tk × List Vt)) : tokS (shutF s) = shutT (tokS s) := by
  match s with
  | [] => rfl
  | [_] => rfl
  | (t, k) :: (t', k') :: r => simp [shutF, shutT, tokS, Vt.tok]
theorem step_tok (s : List (Tk × List Vt)) (t : Tk) : tokS (stepV s t) = stepT (tokS s) t := by
  match s with
  | [] => rfl
  | (t0, k0) :: r =>
    have e : tokS ((t0, k0) :: r) = (t0, k0.map Vt.tok) :: tokS r := rfl
    have hr : tokS r ≠ [] ↔ r ≠ [] := by unfold tokS; simp
    unfold stepV
    rw [e, stepT]
    simp only [hr]
    split
    · rw [shut_tok]; rfl
    · split
      · rfl
      · simp [tokS, Vt.tok]
theorem fold_tok : ∀ (l : List Tk) (s : List (Tk × List Vt)), tokS (l.foldl stepV s) = l.foldl stepT (tokS s)
  | [], _ => rfl
  | t :: l, s => by rw [List.foldl_cons, List.foldl_cons, fold_tok l, step_tok]
theorem close_tok : ∀ (n : Nat) (s : List (Tk × List Vt)), tokS (closeV n s) = closeT n (tokS s)
  | 0, _ => rfl
  | n + 1, s => by
    rw [closeV, closeT, show (tokS s).length = s.length from by unfold tokS; simp]
    split
    · rw [close_tok n, shut_tok]
    · rfl
theorem values_tok (l : List Tk) : (valuesF l).map Vt.tok = valuesT l := by
  unfold valuesF valuesT
  have e : l.foldl stepT [(zeroTk, [])] = tokS (l.foldl stepV [(zeroTk, [])]) := by rw [fold_tok]; rfl
  rw [e, show (tokS (l.foldl stepV [(zeroTk, [])])).length = (l.foldl stepV [(zeroTk, [])]).length from by unfold tokS; simp, ← close_tok]
  generalize closeV _ _ = q
  match q with
  | [] => rfl
  | (_, k) :: _ => rfl
theorem close_closes (k : Int) : closeF (closeF k) = 0 := by
  unfold closeF
  split
  · decide
  · split
    · decide
    · split <;> decide

theorem tkcells6 (x : Tk) : (tkcells x).length = 6 := rfl

/-- what is open: its token, the slice of what stands in it: their tokens, and what else stands in their cells -/
structure Fw where
  t : Tk
  v : Value
  xs : List (Tk × Value)
def fwcells (x : Tk × Value) : List Value := tkcells x.1 ++ [x.2]
theorem fwcells_length (x : Tk × Value) : (fwcells x).length = 7 := rfl
def skT (S : List Fw) : List (Tk × List Tk) := (S.map fun x => (x.t, x.xs.map (·.1))).reverse
theorem skT_top (R : List Fw) (f : Fw) : skT (R ++ [f]) = (f.t, f.xs.map (·.1)) :: skT R := by
  unfold skT
  rw [List.map_append, List.reverse_append]
  rfl
theorem skT_length (R : List Fw) : (skT R).length = R.length := by unfold skT; simp
theorem skT_nil {R : List Fw} : skT R = [] ↔ R = [] := by
  rw [← List.length_eq_zero_iff, skT_length, List.length_eq_zero_iff]
theorem last_fw {S : List Fw} (h : S ≠ []) : ∃ R f, S = R ++ [f] := ⟨S.dropLast, S.getLast h, (List.dropLast_concat_getLast h).symm⟩

theorem Blk.keeps {w w' : World} {g : Nat} {t : TypeId} {cs : Array Value} {row : Option Nat} (h : Blk w g t cs) (hg : w.grownBy w' row) (hr : row ≠ some g) : Blk w' g t cs := (hg.block g h.lt (fun e => hr e.symm)).trans h

structure Sw (B gS gO : Nat) (w : World) (vs ov : Value) (S : List Fw) (K : Nat) : Prop where
  bs : Blk w gS 139 #[vs]
  bo : Blk w gO 136 #[ov]
  hs : B ≤ gS
  ho : B ≤ gO
  row : w.ownsRow B 61 1 vs S.length (S.map Fw.v)
  ops : w.ownsRow B 72 6 ov (S.length - 1) ((S.map Fw.t).tail.flatMap tkcells)
  kid : ∀ x ∈ S, w.ownsRow B 74 7 x.v x.xs.length (x.xs.flatMap fwcells)
  apart : S.Pairwise fun x y => ∀ g, x.v.ownBlock = some g → y.v.ownBlock ≠ some g
  len : ∀ x ∈ S, x.xs.length ≤ K

section
variable {B gS gO K : Nat} {w w' : World} {vs ov : Value} {S R : List Fw}
theorem Sw.grown (h : Sw B gS gO w vs ov S K) {row : Option Nat} (hg : w.grownBy w' row) (hr : ∀ k, row = some k → (k < B ∨ w.heap.size ≤ k)) : Sw B gS gO w' vs ov S K := by
  have hk : ∀ {e : TypeId} {size : Nat} {v : Value} {n : Nat} {xs : List Value}, w.ownsRow B e size v n xs → w'.ownsRow B e size v n xs := fun ho => ho.kept hg (by
    cases hv : (_ : Value).ownBlock with
    | none => exact .inl rfl
    | some k => exact .inr (fun e => by have := ho.lt k hv; have := hr k e.symm; omega))
  exact ⟨h.bs.keeps hg (fun e => by have := hr _ e; have := h.hs; have := h.bs.lt; omega), h.bo.keeps hg (fun e => by have := hr _ e; have := h.ho; have := h.bo.lt; omega), h.hs, h.ho, hk h.row, hk h.ops, fun x hx => hk (h.kid x hx), h.apart, h.len⟩
theorem Sw.below (h : Sw B gS gO w vs ov S K) (hb : Below w.heap.size w w') : Sw B gS gO w' vs ov S K := h.grown (grownBy_of_below hb none) (fun _ e => by cases e)
theorem Sw.mono (h : Sw B gS gO w vs ov S K) {K' : Nat} (hK : K ≤ K') : Sw B gS gO w vs ov S K' := ⟨h.bs, h.bo, h.hs, h.ho, h.row, h.ops, h.kid, h.apart, fun x hx => Nat.le_trans (h.len x hx) hK⟩

theorem Sw.begin {g g' : Nat} {w : World} {gr : Nat} (h1 : Blk w g 139 #[.slice (some ⟨gr, 0, none⟩) 1 1]) (h2 : Blk w g' 136 #[.slice none 0 0]) (h3 : Blk w gr 61 #[.slice none 0 0]) (hg : B ≤ g) (hg' : B ≤ g') (hgr : B ≤ gr) :
    Sw B g g' w (.slice (some ⟨gr, 0, none⟩) 1 1) (.slice none 0 0) [⟨zeroTk, .slice none 0 0, []⟩] 0 := by
  refine ⟨h1, h2, hg, hg', ⟨rfl, Or.inr ⟨gr, 1, _, rfl, hgr, h3, Nat.le_refl _, by decide, rfl, rfl⟩⟩, World.ownsRow_nil _ _ _ _, fun x hx => ?_, List.pairwise_singleton _ _, fun x hx => ?_⟩
  all_goals obtain rfl := List.mem_singleton.1 hx
  · exact World.ownsRow_nil _ _ _ _
  · exact Nat.le_refl _

/-- the innermost is taken off -/
theorem Sw.pop {gs cap : Nat} {oo : Option Addr} {oc : Nat} {p f : Fw} (h : Sw B gS gO w (.slice (some ⟨gs, 0, none⟩) (R.length + 2) cap) (.slice oo (R.length + 1) oc) (R ++ [p] ++ [f]) K) :
    Sw B gS gO ((w.setCell ⟨gS, 0, none⟩ (.slice (some ⟨gs, 0, none⟩) (R.length + 1) cap)).setCell ⟨gO, 0, none⟩ (.slice oo R.length oc)) (.slice (some ⟨gs, 0, none⟩) (R.length + 1) cap) (.slice oo R.length oc) (R ++ [p]) K := by
  have hl1 : (R ++ [p]).length = R.length + 1 := by simp
  have hl : (R ++ [p] ++ [f]).length = R.length + 2 := by simp
  have hrow := h.row
  have hops := h.ops
  rw [hl] at hrow hops
  have hSO : gS ≠ gO := fun e => by
    have h1 := h.bs
    have h2 := h.bo
    unfold Blk at h1 h2
    rw [e, h2] at h1
    injection h1 with h1
    injection h1 with _ h1 _
    exact absurd h1 (by decide)
  have hG1 := grownBy_set w ⟨gS, 0, none⟩ (.slice (some ⟨gs, 0, none⟩) (R.length + 1) cap)
  have hG2 := grownBy_set (w.setCell ⟨gS, 0, none⟩ (.slice (some ⟨gs, 0, none⟩) (R.length + 1) cap)) ⟨gO, 0, none⟩ (.slice oo R.length oc)
  have hk2 : ∀ {e : TypeId} {size : Nat} {v : Value} {n : Nat} {xs : List Value}, w.ownsRow B e size v n xs → v.ownBlock ≠ some gS → v.ownBlock ≠ some gO →
      ((w.setCell ⟨gS, 0, none⟩ (.slice (some ⟨gs, 0, none⟩) (R.length + 1) cap)).setCell ⟨gO, 0, none⟩ (.slice oo R.length oc)).ownsRow B e size v n xs := fun ho h1 h2 =>
    (ho.kept hG1 (.inr h1)).kept hG2 (.inr h2)
  have hr1 := owns_take hrow (k := R.length + 1) (by omega)
  have e1 : ((R ++ [p] ++ [f]).map Fw.v).take ((R.length + 1) * 1) = (R ++ [p]).map Fw.v := by
    rw [List.map_append, List.take_append_of_le_length (by simp), List.take_of_length_le (by simp)]
  rw [e1] at hr1
  obtain ⟨og, rfl⟩ : ∃ og, oo = some ⟨og, 0, none⟩ := by
    rcases hops.2 with ⟨h0, _⟩ | ⟨g, c, cur, hv, _⟩
    · injection h0 with _ h0 _; omega
    · injection hv with h1 _ _; exact ⟨g, h1⟩
  have hr2 := owns_take hops (k := R.length) (by omega)
  have e2 : (((R ++ [p] ++ [f]).map Fw.t).tail.flatMap tkcells).take (R.length * 6) = ((R ++ [p]).map Fw.t).tail.flatMap tkcells := by
    have h1 : ((R ++ [p] ++ [f]).map Fw.t).tail = ((R ++ [p]).map Fw.t).tail ++ [f.t] := by
      rw [List.map_append, List.tail_append_of_ne_nil (by simp)]
      rfl
    rw [h1, List.flatMap_append, List.take_append_of_le_length (by rw [flat_length tkcells6]; simp), List.take_of_length_le (by rw [flat_length tkcells6]; simp)]
  rw [e2] at hr2
  refine ⟨?_, ?_, h.hs, h.ho, ?_, ?_, fun x hx => ?_, (List.pairwise_append.1 h.apart).1, fun x hx => h.len x (List.mem_append_left _ hx)⟩
  · have := (h.bs.put 0 (.slice (some ⟨gs, 0, none⟩) (R.length + 1) cap)).keeps hG2 (fun e => hSO (Option.some.inj e).symm)
    exact this
  · have := (h.bo.keeps hG1 (fun e => hSO (Option.some.inj e))).put 0 (.slice (some ⟨og, 0, none⟩) R.length oc)
    exact this
  · rw [hl1]
    exact hk2 hr1 (blk_apart h.bs hr1 (by decide)) (blk_apart h.bo hr1 (by decide))
  · rw [hl1]
    exact hk2 hr2 (blk_apart h.bs hr2 (by decide)) (blk_apart h.bo hr2 (by decide))
  · have := h.kid x (List.mem_append_left _ hx)
    exact hk2 this (blk_apart h.bs this (by decide)) (blk_apart h.bo this (by decide))

/-- one more stands in the innermost, as it is appended and stored -/
theorem Sw.put {gs cap N gg x y : Nat} {f : Fw} {k : Tk × Value} {v' : Value} {wd w3 w4 : World} (h : Sw B gS gO w (.slice (some ⟨gs, 0, none⟩) (N + 1) cap) ov (R ++ [f]) K) (hN : R.length = N)
    (hgm : Below w.heap.size w wd) (hg3 : wd.grownBy w3 f.v.ownBlock) (hat : f.v.ownBlock = some gg ∨ wd.heap.size ≤ gg) (hv' : v'.ownBlock = some gg) (hB : B ≤ w.heap.size)
    (h4 : w3.grownBy w4 (some x)) (h5 : w4.grownBy w' (some y)) (hx : x = gs ∨ x = gg) (hy : y = gs ∨ y = gg)
    (hrow : w'.ownsRow B 61 1 (.slice (some ⟨gs, 0, none⟩) (N + 1) cap) (N + 1) (R.map Fw.v ++ [v']))
    (hkid : w'.ownsRow B 74 7 v' (f.xs.length + 1) (f.xs.flatMap fwcells ++ fwcells k)) :
    Sw B gS gO w' (.slice (some ⟨gs, 0, none⟩) (N + 1) cap) ov (R ++ [⟨f.t, v', f.xs ++ [k]⟩]) (K + 1) ∧ Below B w w' := by
  have s1 := hgm.size
  have s2 := hg3.size
  have s3 := h4.size
  have s4 := h5.size
  have hfm : f ∈ R ++ [f] := List.mem_append_right _ (List.mem_singleton.2 rfl)
  have hgs : B ≤ gs := (hrow.lt gs rfl).1
  have hgg : B ≤ gg := by
    rcases hat with h1 | h1
    · exact ((h.kid f hfm).lt gg h1).1
    · omega
  have hfk := (h.kid f hfm).lt
  have hblk : ∀ b, b < w.heap.size → b ≠ gs → f.v.ownBlock ≠ some b → w'.heap[b]? = w.heap[b]? := fun b hb e1 h2 => by
    have e2 : b ≠ gg := fun e => by
      rcases hat with h3 | h3
      · exact h2 (by rw [h3, e])
      · omega
    have e3 : some b ≠ some x := fun e => by injection e with e; rcases hx with rfl | rfl <;> contradiction
    have e4 : some b ≠ some y := fun e => by injection e with e; rcases hy with rfl | rfl <;> contradiction
    exact (h5.block b (by omega) e4).trans ((h4.block b (by omega) e3).trans ((hg3.block b (by omega) (fun e => h2 e.symm)).trans (hgm.block b hb)))
  have hown : ∀ {e : TypeId} {size : Nat} {v : Value} {n : Nat} {xs : List Value}, w.ownsRow B e size v n xs → v.ownBlock ≠ some gs → (∀ g, v.ownBlock = some g → f.v.ownBlock ≠ some g) → w'.ownsRow B e size v n xs := fun ho h1 h2 => by
    refine ⟨ho.1, ?_⟩
    rcases ho.2 with h0 | ⟨g, cap, cur, hv, hg, hc, rest⟩
    · exact .inl h0
    · subst hv
      exact .inr ⟨g, cap, cur, rfl, hg, (hblk g (ho.lt g rfl).2 (fun e => h1 (by rw [e]; rfl)) (h2 g rfl)).trans hc, rest⟩
  have hr0 := h.row
  have hl1 : (R ++ [f]).length = N + 1 := by simp [hN]
  have hap := List.pairwise_append.1 h.apart
  rw [hl1] at hr0
  refine ⟨⟨?_, ?_, h.hs, h.ho, ?_, ?_, fun z hz => ?_, ?_, fun z hz => ?_⟩, ⟨?_, ?_, ?_, by omega, fun b hb => ?_⟩⟩
  · exact (hblk gS h.bs.lt (fun e => blk_apart h.bs hr0 (by decide) (by rw [e]; rfl)) (blk_apart h.bs (h.kid f hfm) (by decide))).trans h.bs
  · exact (hblk gO h.bo.lt (fun e => blk_apart h.bo hr0 (by decide) (by rw [e]; rfl)) (blk_apart h.bo (h.kid f hfm) (by decide))).trans h.bo
  · rw [List.map_append, List.length_append, hN]
    exact hrow
  · have ho := h.ops
    have e1 : (R ++ [(⟨f.t, v', f.xs ++ [k]⟩ : Fw)]).map Fw.t = (R ++ [f]).map Fw.t := by simp
    have e2 : (R ++ [(⟨f.t, v', f.xs ++ [k]⟩ : Fw)]).length = (R ++ [f]).length := by simp
    rw [e1, e2]
    exact hown ho (fun e => owns_apart ho hr0 (by decide) e rfl) (fun g hg => owns_apart ho (h.kid f hfm) (by decide) hg)
  · rcases List.mem_append.1 hz with hz | hz
    · have ho := h.kid z (List.mem_append_left _ hz)
      exact hown ho (fun e => owns_apart ho hr0 (by decide) e rfl) (fun g hg => hap.2.2 z hz f (List.mem_singleton.2 rfl) g hg)
    · obtain rfl := List.mem_singleton.1 hz
      simp only [List.length_append, List.length_singleton, List.flatMap_append, List.flatMap_singleton]
      exact hkid
  · refine List.pairwise_append.2 ⟨hap.1, List.pairwise_singleton _ _, fun z hz u hu g hg => ?_⟩
    obtain rfl := List.mem_singleton.1 hu
    simp only [hv']
    intro e
    obtain rfl := Option.some.inj e
    rcases hat with hat | hat
    · exact hap.2.2 z hz f (List.mem_singleton.2 rfl) _ hg hat
    · have := ((h.kid z (List.mem_append_left _ hz)).lt _ hg).2; omega
  · rcases List.mem_append.1 hz with hz | hz
    · exact Nat.le_succ_of_le (h.len z (List.mem_append_left _ hz))
    · obtain rfl := List.mem_singleton.1 hz
      have := h.len f hfm
      simp only [List.length_append, List.length_singleton]
      omega
  · exact h5.os.trans (h4.os.trans (hg3.os.trans hgm.os))
  · exact h5.tape.trans (h4.tape.trans (hg3.tape.trans hgm.tape))
  · exact h5.output.trans (h4.output.trans (hg3.output.trans hgm.output))
  · have e3 : some b ≠ some x := fun e => by injection e with e; omega
    have e4 : some b ≠ some y := fun e => by injection e with e; omega
    have e5 : some b ≠ f.v.ownBlock := fun e => by have := (hfk b e.symm).1; omega
    exact (h5.block b (by omega) e4).trans ((h4.block b (by omega) e3).trans ((hg3.block b (by omega) e5).trans (hgm.block b (by omega))))
end

end Go.Proofs.Ytgjhaanpkfheeaa

namespace Go.Proofs.Ytgjhaanpkfheeaa
set_option linter.unusedVariables false
set_option linter.unusedSimpArgs false

/-- what 'name' tells of a value, by the tokens that stand in it -/
def nameT (t : Tk) (T : List Tk) : Option (Int × Int × List UInt8) := if t.kind = 21 then (idT T).map fun s => (3, 0, s) else if t.kind = 2 ∧ t.text = [111, 102] then some (1, 2, []) else none
theorem nameQ_mk (t : Tk) (k : List Vt) : nameQ (.mk t k) = nameT t (k.map Vt.tok) := rfl
theorem name_flat (t : Tk) (K : List Vt) (hk : ∀ t k, K.head? = some (.mk t k) → t.kind = 1 → k = []) : nameT t (valuesT (flatV K)) = nameQ (.mk t K) := by
  have h := ident_flat K hk
  unfold identOf at h
  rw [nameQ_mk, ← values_tok]
  unfold nameT
  rw [h]
/-- the leaves: by 'name', or none -/
def leafF (b : Bool) : Vt → Option (Int × Int × List UInt8) := if b then nameQ else noneQ

theorem may_mk {n : Nat} {t : Tk} {k r : List Vt} (h : mayV n (.mk t k :: r) = true) : 1 ≤ t.kind ∧ t.kind ≤ 24 ∧ (closeF t.kind = 0 → k = []) ∧ (∃ n', mayV n' k = true) ∧ mayV n r = true := by
  rw [mayV_cons] at h
  simp only [Bool.and_eq_true, decide_eq_true_eq] at h
  obtain ⟨⟨⟨h1, h2⟩, h3⟩, h4⟩ := h
  refine ⟨h1, h2, fun hc => ?_, ?_, h4⟩
  · rw [if_pos hc] at h3
    exact List.isEmpty_iff.1 h3
  · by_cases hc : closeF t.kind = 0
    · rw [if_pos hc] at h3
      rw [List.isEmpty_iff.1 h3]
      exact ⟨0, mayV_nil 0⟩
    · rw [if_neg hc] at h3
      cases n with
      | zero => cases h3
      | succ n => exact ⟨n, h3⟩
theorem may_head {n : Nat} {K : List Vt} (h : mayV n K = true) : ∀ t k, K.head? = some (.mk t k) → t.kind = 1 → k = [] := by
  intro t k hk h1
  match K with
  | [] => cases hk
  | .mk t' k' :: r =>
    obtain ⟨rfl, rfl⟩ : t' = t ∧ k' = k := by simpa using hk
    exact (may_mk h).2.2.1 (by rw [h1]; rfl)
theorem may_kid : ∀ {n : Nat} {K : List Vt}, mayV n K = true → ∀ t k, .mk t k ∈ K → ∃ n', mayV n' k = true
  | _, [], _, _, _, h => by cases h
  | n, .mk t' k' :: r, h, t, k, hm => by
    rcases List.mem_cons.1 hm with e | e
    · obtain ⟨rfl, rfl⟩ : t = t' ∧ k = k' := by simpa using e
      exact (may_mk h).2.2.2.1
    · exact may_kid (may_mk h).2.2.2.2 t k e
theorem sz_kid : ∀ {K : List Vt} (t : Tk) (k : List Vt), .mk t k ∈ K → szV k < szV K
  | [], _, _, h => by cases h
  | .mk t' k' :: r, t, k, hm => by
    rw [szV_cons]
    rcases List.mem_cons.1 hm with e | e
    · obtain ⟨rfl, rfl⟩ : t = t' ∧ k = k' := by simpa using e
      omega
    · have := sz_kid t k e
      omega
theorem sz_len : ∀ K : List Vt, K.length ≤ szV K
  | [] => Nat.le_refl _
  | .mk t k :: r => by
    have := sz_len r
    rw [szV_cons, List.length_cons]
    omega

end Go.Proofs.Ytgjhaanpkfheeaa

namespace Go.Proofs.Ytgjhaanpkfheeaa
set_option linter.unusedVariables false
set_option linter.unusedSimpArgs false
open Go.RowKit

theorem sizeCond : (Try.prog.info? 49).map (·.size) = some 14 := by kernel_rfl
theorem load_cd {w : World} {g : Nat} {t : TypeId} {cs : Array Value} (h : Blk w g t cs) (hs : cs.size = 14) : (loadVar 49 ⟨g, 0, none⟩).run Try.prog w = .ok (.agg cs) w :=
  run_loadVar_row w g t _ cs (0, 0) _ h Try.underlying49 rfl (by rw [hs]; exact sizeCond)
theorem ret_cd {fn : Func} {p : Tmp} {tmps : Array Value} {w : World} {g : Nat} {t : TypeId} {cs : Array Value} (hr : fn.results = #[.cell p 49]) (hp : tmps.getD p undef = .pointer (some ⟨g, 0, none⟩)) (h : Blk w g t cs) (hs : cs.size = 14) : (results fn tmps).run Try.prog w = .ok (.agg cs) w :=
  results_cell_row hr tmps w g t cs (0, 0) _ hp h Try.underlying49 rfl (by rw [hs]; exact sizeCond)
theorem ret_cd2 {fn : Func} {p u : Tmp} {tmps : Array Value} {w : World} {g : Nat} {t : TypeId} {cs : Array Value} {x : Value} (hr : fn.results = #[.cell p 49, .tmp u]) (hp : tmps.getD p undef = .pointer (some ⟨g, 0, none⟩)) (hu : tmps.getD u undef = x) (h : Blk w g t cs) (hs : cs.size = 14) : (results fn tmps).run Try.prog w = .ok (.tuple #[.agg cs, x]) w := by
  rw [results_cell_tmp hr, hp, hu]
  simp only [asAddr, Sem.run_pure, Result.andThen_ok, load_cd h hs]

def toldV : Option (Int × Int × List UInt8) → Value
  | some L => .tuple #[.agg (qcells 4 (.slice none 0 0) L).toArray, .bool true]
  | none => .tuple #[.agg (qcells 0 (.slice none 0 0) (0, 0, [])).toArray, .bool false]
def zero5 : Array Value := #[.int .i64 0, .int .i64 0, .int .i64 0, .int .i64 0, .slice none 0 0]

set_option maxRecDepth 20000 in
set_option maxHeartbeats 4000000 in
theorem expr0_any (w : World) : Calls Try.prog 101 #[.agg #[.int .i64 0, .int .i64 0, .int .i64 0, .int .i64 0, .slice none 0 0]] w fun e w' => e = .returned (.agg #[.int .i64 0, .int .i64 0, .int .i64 0, .int .i64 0, .slice none 0 0]) ∧ Below w.heap.size w w' := by
  have hb := below_box w (.cells zero5 45)
  have h1 := (Blk.new w 45 zero5).old (.cells zero5 45)
  have h2 := Blk.new (w.alloc (.cells zero5 45)) 45 zero5
  have hb2 := hb.alloc (by simp) (.cells zero5 45)
  have hs2 : (w.alloc (.cells zero5 45)).heap.size = w.heap.size + 1 := by simp
  rw [hs2] at h2
  have H := Lib.hid (And.intro h1 (And.intro h2 hb2))
  clear h1 h2 hb hb2 hs2
  simp only [zero5] at H
  go_enter Try.func101, Try.ntmps101
  go_upto_region 3 with fail
  obtain ⟨g, hg⟩ : ∃ g, w.heap.size = g := ⟨_, rfl⟩
  rw [hg] at H
  simp only [hg]
  have HG := Lib.hid hg
  clear hg
  generalize World.alloc (World.alloc w _) _ = wa at *
  obtain ⟨h1, h2, hb⟩ := H.out
  have ca0 : wa.cell? ⟨g, 0, none⟩ = some (.int .i64 0) := (h1).cell 0
  have fca0 := (h1).frozen 0
  have ca1 : wa.cell? ⟨g, 1, none⟩ = some (.int .i64 0) := (h1).cell 1
  have fca1 := (h1).frozen 1
  have ca2 : wa.cell? ⟨g, 2, none⟩ = some (.int .i64 0) := (h1).cell 2
  have fca2 := (h1).frozen 2
  have ca3 : wa.cell? ⟨g, 3, none⟩ = some (.int .i64 0) := (h1).cell 3
  have fca3 := (h1).frozen 3
  have ca4 : wa.cell? ⟨g, 4, none⟩ = some (.slice none 0 0) := (h1).cell 4
  have fca4 := (h1).frozen 4
  have lca := (h1).lt
  have cb0 : wa.cell? ⟨g + 1, 0, none⟩ = some (.int .i64 0) := (h2).cell 0
  have fcb0 := (h2).frozen 0
  have cb1 : wa.cell? ⟨g + 1, 1, none⟩ = some (.int .i64 0) := (h2).cell 1
  have fcb1 := (h2).frozen 1
  have cb2 : wa.cell? ⟨g + 1, 2, none⟩ = some (.int .i64 0) := (h2).cell 2
  have fcb2 := (h2).frozen 2
  have cb3 : wa.cell? ⟨g + 1, 3, none⟩ = some (.int .i64 0) := (h2).cell 3
  have fcb3 := (h2).frozen 3
  have cb4 : wa.cell? ⟨g + 1, 4, none⟩ = some (.slice none 0 0) := (h2).cell 4
  have fcb4 := (h2).frozen 4
  have lcb := (h2).lt
  clear h1 h2 hb
  go_wp2_with fail
  go_loopg [11] 0 (fun q s wr => s = .int .i64 0 ∧ wr = wa)
  case atStart => exact ⟨rfl, rfl⟩
  case round =>
    obtain ⟨rfl, rfl⟩ := hrel
    go_wp2_with fail
    have hputs := (H.out.2.1).put5 (.int .i64 0) (.int .i64 0) (.int .i64 0) (.int .i64 0) (.slice none 0 0)
    refine bodyPost_ret (v := .agg #[.int .i64 0, .int .i64 0, .int .i64 0, .int .i64 0, .slice none 0 0]) ?_ rfl ?_
    · refine ret_ex Try.results101 ?_ hputs rfl
      all_goals rfl
    · exact ⟨rfl, by rw [HG.out]; exact below_put5 H.out.2.2 (Nat.le_succ g) (.int .i64 0) (.int .i64 0) (.int .i64 0) (.int .i64 0) (.slice none 0 0)⟩

set_option maxRecDepth 20000 in
set_option maxHeartbeats 4000000 in
theorem copied0_any (k a b : Int) (s : ByteArray) (w : World) : Calls Try.prog 140 #[.agg #[.int .i64 k, .slice none 0 0, .int .i64 a, .int .i64 b, .string s, .int .i64 0, .int .i64 0, .int .i64 0, .int .i64 0, .int .i64 0, .slice none 0 0, .string ⟨#[]⟩, .string ⟨#[]⟩, .bool false]] w fun e w' => e = .returned (.agg #[.int .i64 k, .slice none 0 0, .int .i64 a, .int .i64 b, .string s, .int .i64 0, .int .i64 0, .int .i64 0, .int .i64 0, .int .i64 0, .slice none 0 0, .string ⟨#[]⟩, .string ⟨#[]⟩, .bool false]) ∧ Below w.heap.size w w' := by
  have hb := below_box w (.cells #[.int .i64 k, .slice none 0 0, .int .i64 a, .int .i64 b, .string s, .int .i64 0, .int .i64 0, .int .i64 0, .int .i64 0, .int .i64 0, .slice none 0 0, .string ⟨#[]⟩, .string ⟨#[]⟩, .bool false] 49)
  have h1 := (Blk.new w 49 #[.int .i64 k, .slice none 0 0, .int .i64 a, .int .i64 b, .string s, .int .i64 0, .int .i64 0, .int .i64 0, .int .i64 0, .int .i64 0, .slice none 0 0, .string ⟨#[]⟩, .string ⟨#[]⟩, .bool false]).old (.cells zero14 49)
  have h2 := Blk.new (w.alloc (.cells #[.int .i64 k, .slice none 0 0, .int .i64 a, .int .i64 b, .string s, .int .i64 0, .int .i64 0, .int .i64 0, .int .i64 0, .int .i64 0, .slice none 0 0, .string ⟨#[]⟩, .string ⟨#[]⟩, .bool false] 49)) 49 zero14
  have hb2 := hb.alloc (by simp) (.cells zero14 49)
  have hs2 : (w.alloc (.cells #[.int .i64 k, .slice none 0 0, .int .i64 a, .int .i64 b, .string s, .int .i64 0, .int .i64 0, .int .i64 0, .int .i64 0, .int .i64 0, .slice none 0 0, .string ⟨#[]⟩, .string ⟨#[]⟩, .bool false] 49)).heap.size = w.heap.size + 1 := by simp
  rw [hs2] at h2
  have H := Lib.hid (And.intro h1 (And.intro h2 hb2))
  clear h1 h2 hb hb2 hs2
  simp only [zero14] at H
  go_enter Try.func140, Try.ntmps140
  go_upto_region 3 with fail
  obtain ⟨g, hg⟩ : ∃ g, w.heap.size = g := ⟨_, rfl⟩
  rw [hg] at H
  simp only [hg]
  have HG := Lib.hid hg
  clear hg
  generalize World.alloc (World.alloc w _) _ = wa at *
  obtain ⟨h1, h2, hb⟩ := H.out
  have ca0 : wa.cell? ⟨g, 0, none⟩ = some (.int .i64 k) := (h1).cell 0
  have fca0 := (h1).frozen 0
  have ca1 : wa.cell? ⟨g, 1, none⟩ = some (.slice none 0 0) := (h1).cell 1
  have fca1 := (h1).frozen 1
  have ca2 : wa.cell? ⟨g, 2, none⟩ = some (.int .i64 a) := (h1).cell 2
  have fca2 := (h1).frozen 2
  have ca3 : wa.cell? ⟨g, 3, none⟩ = some (.int .i64 b) := (h1).cell 3
  have fca3 := (h1).frozen 3
  have ca4 : wa.cell? ⟨g, 4, none⟩ = some (.string s) := (h1).cell 4
  have fca4 := (h1).frozen 4
  have ca5 : wa.cell? ⟨g, 5, none⟩ = some (.int .i64 0) := (h1).cell 5
  have fca5 := (h1).frozen 5
  have ca6 : wa.cell? ⟨g, 6, none⟩ = some (.int .i64 0) := (h1).cell 6
  have fca6 := (h1).frozen 6
  have ca7 : wa.cell? ⟨g, 7, none⟩ = some (.int .i64 0) := (h1).cell 7
  have fca7 := (h1).frozen 7
  have ca8 : wa.cell? ⟨g, 8, none⟩ = some (.int .i64 0) := (h1).cell 8
  have fca8 := (h1).frozen 8
  have ca9 : wa.cell? ⟨g, 9, none⟩ = some (.int .i64 0) := (h1).cell 9
  have fca9 := (h1).frozen 9
  have ca10 : wa.cell? ⟨g, 10, none⟩ = some (.slice none 0 0) := (h1).cell 10
  have fca10 := (h1).frozen 10
  have ca11 : wa.cell? ⟨g, 11, none⟩ = some (.string ⟨#[]⟩) := (h1).cell 11
  have fca11 := (h1).frozen 11
  have ca12 : wa.cell? ⟨g, 12, none⟩ = some (.string ⟨#[]⟩) := (h1).cell 12
  have fca12 := (h1).frozen 12
  have ca13 : wa.cell? ⟨g, 13, none⟩ = some (.bool false) := (h1).cell 13
  have fca13 := (h1).frozen 13
  have lca := (h1).lt
  have cb0 : wa.cell? ⟨g + 1, 0, none⟩ = some (.int .i64 0) := (h2).cell 0
  have fcb0 := (h2).frozen 0
  have cb1 : wa.cell? ⟨g + 1, 1, none⟩ = some (.slice none 0 0) := (h2).cell 1
  have fcb1 := (h2).frozen 1
  have cb2 : wa.cell? ⟨g + 1, 2, none⟩ = some (.int .i64 0) := (h2).cell 2
  have fcb2 := (h2).frozen 2
  have cb3 : wa.cell? ⟨g + 1, 3, none⟩ = some (.int .i64 0) := (h2).cell 3
  have fcb3 := (h2).frozen 3
  have cb4 : wa.cell? ⟨g + 1, 4, none⟩ = some (.string ⟨#[]⟩) := (h2).cell 4
  have fcb4 := (h2).frozen 4
  have cb5 : wa.cell? ⟨g + 1, 5, none⟩ = some (.int .i64 0) := (h2).cell 5
  have fcb5 := (h2).frozen 5
  have cb6 : wa.cell? ⟨g + 1, 6, none⟩ = some (.int .i64 0) := (h2).cell 6
  have fcb6 := (h2).frozen 6
  have cb7 : wa.cell? ⟨g + 1, 7, none⟩ = some (.int .i64 0) := (h2).cell 7
  have fcb7 := (h2).frozen 7
  have cb8 : wa.cell? ⟨g + 1, 8, none⟩ = some (.int .i64 0) := (h2).cell 8
  have fcb8 := (h2).frozen 8
  have cb9 : wa.cell? ⟨g + 1, 9, none⟩ = some (.int .i64 0) := (h2).cell 9
  have fcb9 := (h2).frozen 9
  have cb10 : wa.cell? ⟨g + 1, 10, none⟩ = some (.slice none 0 0) := (h2).cell 10
  have fcb10 := (h2).frozen 10
  have cb11 : wa.cell? ⟨g + 1, 11, none⟩ = some (.string ⟨#[]⟩) := (h2).cell 11
  have fcb11 := (h2).frozen 11
  have cb12 : wa.cell? ⟨g + 1, 12, none⟩ = some (.string ⟨#[]⟩) := (h2).cell 12
  have fcb12 := (h2).frozen 12
  have cb13 : wa.cell? ⟨g + 1, 13, none⟩ = some (.bool false) := (h2).cell 13
  have fcb13 := (h2).frozen 13
  have lcb := (h2).lt
  clear h1 h2 hb
  go_wp2_with fail
  go_loopg [11] 0 (fun q s wr => s = .int .i64 0 ∧ wr = wa)
  case atStart => exact ⟨rfl, rfl⟩
  case round =>
    obtain ⟨rfl, rfl⟩ := hrel
    have HE := Lib.hid (expr0_any wr)
    go_wp2_with fail
    ((with_reducible refine (HE.out).mono ?_); rintro e w' ⟨rfl, hbw⟩)
    obtain ⟨m, rfl⟩ := grow_mk hbw
    clear hbw
    have h1 := H.out.1.grow m
    have h2 := H.out.2.1.grow m
    have hb := H.out.2.2.trans ((grow_below m).mono (Nat.le_of_lt lca))
    have H2 := Lib.hid (And.intro h1 (And.intro h2 hb))
    clear H ca0 ca1 ca2 ca3 ca4 ca5 ca6 ca7 ca8 ca9 ca10 ca11 ca12 ca13 fca0 fca1 fca2 fca3 fca4 fca5 fca6 fca7 fca8 fca9 fca10 fca11 fca12 fca13 lca cb0 cb1 cb2 cb3 cb4 cb5 cb6 cb7 cb8 cb9 cb10 cb11 cb12 cb13 fcb0 fcb1 fcb2 fcb3 fcb4 fcb5 fcb6 fcb7 fcb8 fcb9 fcb10 fcb11 fcb12 fcb13 lcb
    generalize grow wr m = wc at *
    have ca0 : wc.cell? ⟨g, 0, none⟩ = some (.int .i64 k) := (h1).cell 0
    have fca0 := (h1).frozen 0
    have ca1 : wc.cell? ⟨g, 1, none⟩ = some (.slice none 0 0) := (h1).cell 1
    have fca1 := (h1).frozen 1
    have ca2 : wc.cell? ⟨g, 2, none⟩ = some (.int .i64 a) := (h1).cell 2
    have fca2 := (h1).frozen 2
    have ca3 : wc.cell? ⟨g, 3, none⟩ = some (.int .i64 b) := (h1).cell 3
    have fca3 := (h1).frozen 3
    have ca4 : wc.cell? ⟨g, 4, none⟩ = some (.string s) := (h1).cell 4
    have fca4 := (h1).frozen 4
    have ca5 : wc.cell? ⟨g, 5, none⟩ = some (.int .i64 0) := (h1).cell 5
    have fca5 := (h1).frozen 5
    have ca6 : wc.cell? ⟨g, 6, none⟩ = some (.int .i64 0) := (h1).cell 6
    have fca6 := (h1).frozen 6
    have ca7 : wc.cell? ⟨g, 7, none⟩ = some (.int .i64 0) := (h1).cell 7
    have fca7 := (h1).frozen 7
    have ca8 : wc.cell? ⟨g, 8, none⟩ = some (.int .i64 0) := (h1).cell 8
    have fca8 := (h1).frozen 8
    have ca9 : wc.cell? ⟨g, 9, none⟩ = some (.int .i64 0) := (h1).cell 9
    have fca9 := (h1).frozen 9
    have ca10 : wc.cell? ⟨g, 10, none⟩ = some (.slice none 0 0) := (h1).cell 10
    have fca10 := (h1).frozen 10
    have ca11 : wc.cell? ⟨g, 11, none⟩ = some (.string ⟨#[]⟩) := (h1).cell 11
    have fca11 := (h1).frozen 11
    have ca12 : wc.cell? ⟨g, 12, none⟩ = some (.string ⟨#[]⟩) := (h1).cell 12
    have fca12 := (h1).frozen 12
    have ca13 : wc.cell? ⟨g, 13, none⟩ = some (.bool false) := (h1).cell 13
    have fca13 := (h1).frozen 13
    have lca := (h1).lt
    clear h1 h2 hb
    go_upto_region 9 with fail
    have h1 := ((((H2.out.1.put 6 (.int .i64 0)).put 7 (.int .i64 0)).put 8 (.int .i64 0)).put 9 (.int .i64 0)).put 10 (.slice none 0 0)
    have h2 := H2.out.2.1.keeps (grownBy_puts zero5.toList wc g 6) (fun e => by have := Option.some.inj e; omega)
    have hb := H2.out.2.2.trans (below_put14 zero5.toList wc g 6)
    simp only [List.setIfInBounds_toArray, List.set_cons_succ, List.set_cons_zero] at h1
    simp only [zero5, puts, Nat.zero_add, Nat.reduceAdd] at h2 hb
    have H3 := Lib.hid (And.intro h1 (And.intro h2 hb))
    clear H2 ca0 ca1 ca2 ca3 ca4 ca5 ca6 ca7 ca8 ca9 ca10 ca11 ca12 ca13 fca0 fca1 fca2 fca3 fca4 fca5 fca6 fca7 fca8 fca9 fca10 fca11 fca12 fca13 lca
    generalize World.setCell _ ⟨g, 10, none⟩ _ = wd at *
    have ca0 : wd.cell? ⟨g, 0, none⟩ = some (.int .i64 k) := (h1).cell 0
    have fca0 := (h1).frozen 0
    have ca1 : wd.cell? ⟨g, 1, none⟩ = some (.slice none 0 0) := (h1).cell 1
    have fca1 := (h1).frozen 1
    have ca2 : wd.cell? ⟨g, 2, none⟩ = some (.int .i64 a) := (h1).cell 2
    have fca2 := (h1).frozen 2
    have ca3 : wd.cell? ⟨g, 3, none⟩ = some (.int .i64 b) := (h1).cell 3
    have fca3 := (h1).frozen 3
    have ca4 : wd.cell? ⟨g, 4, none⟩ = some (.string s) := (h1).cell 4
    have fca4 := (h1).frozen 4
    have ca5 : wd.cell? ⟨g, 5, none⟩ = some (.int .i64 0) := (h1).cell 5
    have fca5 := (h1).frozen 5
    have ca6 : wd.cell? ⟨g, 6, none⟩ = some (.int .i64 0) := (h1).cell 6
    have fca6 := (h1).frozen 6
    have ca7 : wd.cell? ⟨g, 7, none⟩ = some (.int .i64 0) := (h1).cell 7
    have fca7 := (h1).frozen 7
    have ca8 : wd.cell? ⟨g, 8, none⟩ = some (.int .i64 0) := (h1).cell 8
    have fca8 := (h1).frozen 8
    have ca9 : wd.cell? ⟨g, 9, none⟩ = some (.int .i64 0) := (h1).cell 9
    have fca9 := (h1).frozen 9
    have ca10 : wd.cell? ⟨g, 10, none⟩ = some (.slice none 0 0) := (h1).cell 10
    have fca10 := (h1).frozen 10
    have ca11 : wd.cell? ⟨g, 11, none⟩ = some (.string ⟨#[]⟩) := (h1).cell 11
    have fca11 := (h1).frozen 11
    have ca12 : wd.cell? ⟨g, 12, none⟩ = some (.string ⟨#[]⟩) := (h1).cell 12
    have fca12 := (h1).frozen 12
    have ca13 : wd.cell? ⟨g, 13, none⟩ = some (.bool false) := (h1).cell 13
    have fca13 := (h1).frozen 13
    have lca := (h1).lt
    have cb0 : wd.cell? ⟨g + 1, 0, none⟩ = some (.int .i64 0) := (h2).cell 0
    have fcb0 := (h2).frozen 0
    have cb1 : wd.cell? ⟨g + 1, 1, none⟩ = some (.slice none 0 0) := (h2).cell 1
    have fcb1 := (h2).frozen 1
    have cb2 : wd.cell? ⟨g + 1, 2, none⟩ = some (.int .i64 0) := (h2).cell 2
    have fcb2 := (h2).frozen 2
    have cb3 : wd.cell? ⟨g + 1, 3, none⟩ = some (.int .i64 0) := (h2).cell 3
    have fcb3 := (h2).frozen 3
    have cb4 : wd.cell? ⟨g + 1, 4, none⟩ = some (.string ⟨#[]⟩) := (h2).cell 4
    have fcb4 := (h2).frozen 4
    have cb5 : wd.cell? ⟨g + 1, 5, none⟩ = some (.int .i64 0) := (h2).cell 5
    have fcb5 := (h2).frozen 5
    have cb6 : wd.cell? ⟨g + 1, 6, none⟩ = some (.int .i64 0) := (h2).cell 6
    have fcb6 := (h2).frozen 6
    have cb7 : wd.cell? ⟨g + 1, 7, none⟩ = some (.int .i64 0) := (h2).cell 7
    have fcb7 := (h2).frozen 7
    have cb8 : wd.cell? ⟨g + 1, 8, none⟩ = some (.int .i64 0) := (h2).cell 8
    have fcb8 := (h2).frozen 8
    have cb9 : wd.cell? ⟨g + 1, 9, none⟩ = some (.int .i64 0) := (h2).cell 9
    have fcb9 := (h2).frozen 9
    have cb10 : wd.cell? ⟨g + 1, 10, none⟩ = some (.slice none 0 0) := (h2).cell 10
    have fcb10 := (h2).frozen 10
    have cb11 : wd.cell? ⟨g + 1, 11, none⟩ = some (.string ⟨#[]⟩) := (h2).cell 11
    have fcb11 := (h2).frozen 11
    have cb12 : wd.cell? ⟨g + 1, 12, none⟩ = some (.string ⟨#[]⟩) := (h2).cell 12
    have fcb12 := (h2).frozen 12
    have cb13 : wd.cell? ⟨g + 1, 13, none⟩ = some (.bool false) := (h2).cell 13
    have fcb13 := (h2).frozen 13
    have lcb := (h2).lt
    clear h1 h2 hb
    go_wp2_with fail
    have hz := blk_puts [.int .i64 k, .slice none 0 0, .int .i64 a, .int .i64 b, .string s, .int .i64 0, .int .i64 0, .int .i64 0, .int .i64 0, .int .i64 0, .slice none 0 0, .string ⟨#[]⟩, .string ⟨#[]⟩, .bool false] zero14.toList wd 0 [] H3.out.2.1 rfl rfl
    have hbz := H3.out.2.2.trans ((below_put14 [.int .i64 k, .slice none 0 0, .int .i64 a, .int .i64 b, .string s, .int .i64 0, .int .i64 0, .int .i64 0, .int .i64 0, .int .i64 0, .slice none 0 0, .string ⟨#[]⟩, .string ⟨#[]⟩, .bool false] wd (g + 1) 0).mono (Nat.le_succ g))
    simp only [puts, Nat.zero_add, Nat.reduceAdd] at hz hbz
    refine bodyPost_ret (v := .agg #[.int .i64 k, .slice none 0 0, .int .i64 a, .int .i64 b, .string s, .int .i64 0, .int .i64 0, .int .i64 0, .int .i64 0, .int .i64 0, .slice none 0 0, .string ⟨#[]⟩, .string ⟨#[]⟩, .bool false]) ?_ rfl ?_
    · refine ret_cd Try.results140 ?_ hz rfl
      rfl
    · exact ⟨rfl, by rw [HG.out]; exact hbz⟩

end Go.Proofs.Ytgjhaanpkfheeaa

namespace Go.Proofs.Ytgjhaanpkfheeaa
set_option linter.unusedVariables false
set_option linter.unusedSimpArgs false
open Go.RowKit

/-- what is panicked with -/
def barredV : PanicEntry := { v := .iface 115 (.agg #[]), recovered := false }

set_option maxRecDepth 20000 in
set_option maxHeartbeats 2000000 in
theorem trap_panicking (gc ge : Nat) (k : Int) (w : World) (hc : Blk w gc 49 zero14) (he : Blk w ge 62 #[.int .i64 k]) (older : List PanicEntry) :
    CallsD Try.prog 111 #[.pointer (some ⟨gc, 0, none⟩), .pointer (some ⟨ge, 0, none⟩)] (.panicking (barredV :: older)) w fun e u' w' =>
      e = .returned (.tuple #[]) ∧ u' = .panicking ({ barredV with recovered := true } :: older) ∧ Blk w' gc 49 zero14 ∧ Blk w' ge 62 #[.int .i64 3] ∧ ∀ B, B ≤ gc → B ≤ ge → B ≤ w.heap.size → Below B w w' := by
  refine callsD_of_wpS Try.func111 rfl fun c₀ cs hu => ?_
  have hta : ∀ (v : Value) (W : World), (Instr.typeAssert (.iface 115 v) 20 115 true).run Try.prog W = .ok (.tuple #[v, .bool true]) W := fun v W => by kernel_rfl
  simp only [Try.ntmps111, List.size_toArray, List.length_cons, List.length_nil, Nat.reduceAdd, Nat.reduceSub, Array.replicate_succ, Array.replicate_zero, List.push_toArray, List.append_toArray, List.nil_append, List.cons_append]
  apply wpS_seq
  apply wpS_region
  simp [wpOpsS, go_sem, recoverD, hu, Exit.thenS, barredV]
  refine wpS_of_wp ?_
  have hne : gc ≠ ge := fun e => by
    unfold Blk at hc he
    rw [e, he] at hc
    injection hc with hc
    injection hc with _ hc _
    exact absurd hc (by decide)
  have hne2 : ge ≠ gc := Ne.symm hne
  have HC := Lib.hid (hc.old (.cells #[] 115))
  have HE := Lib.hid (he.old (.cells #[] 115))
  have HB := Lib.hid (below_box w (.cells #[] 115))
  clear hc he
  go_upto_region 5 with fail
  generalize w.alloc _ = wa at *
  have hc := HC.out
  have he := HE.out
  have cc0 : wa.cell? ⟨gc, 0, none⟩ = some (.int .i64 0) := (hc).cell 0
  have fcc0 := (hc).frozen 0
  have cc1 : wa.cell? ⟨gc, 1, none⟩ = some (.slice none 0 0) := (hc).cell 1
  have fcc1 := (hc).frozen 1
  have cc2 : wa.cell? ⟨gc, 2, none⟩ = some (.int .i64 0) := (hc).cell 2
  have fcc2 := (hc).frozen 2
  have cc3 : wa.cell? ⟨gc, 3, none⟩ = some (.int .i64 0) := (hc).cell 3
  have fcc3 := (hc).frozen 3
  have cc4 : wa.cell? ⟨gc, 4, none⟩ = some (.string ⟨#[]⟩) := (hc).cell 4
  have fcc4 := (hc).frozen 4
  have cc5 : wa.cell? ⟨gc, 5, none⟩ = some (.int .i64 0) := (hc).cell 5
  have fcc5 := (hc).frozen 5
  have cc6 : wa.cell? ⟨gc, 6, none⟩ = some (.int .i64 0) := (hc).cell 6
  have fcc6 := (hc).frozen 6
  have cc7 : wa.cell? ⟨gc, 7, none⟩ = some (.int .i64 0) := (hc).cell 7
  have fcc7 := (hc).frozen 7
  have cc8 : wa.cell? ⟨gc, 8, none⟩ = some (.int .i64 0) := (hc).cell 8
  have fcc8 := (hc).frozen 8
  have cc9 : wa.cell? ⟨gc, 9, none⟩ = some (.int .i64 0) := (hc).cell 9
  have fcc9 := (hc).frozen 9
  have cc10 : wa.cell? ⟨gc, 10, none⟩ = some (.slice none 0 0) := (hc).cell 10
  have fcc10 := (hc).frozen 10
  have cc11 : wa.cell? ⟨gc, 11, none⟩ = some (.string ⟨#[]⟩) := (hc).cell 11
  have fcc11 := (hc).frozen 11
  have cc12 : wa.cell? ⟨gc, 12, none⟩ = some (.string ⟨#[]⟩) := (hc).cell 12
  have fcc12 := (hc).frozen 12
  have cc13 : wa.cell? ⟨gc, 13, none⟩ = some (.bool false) := (hc).cell 13
  have fcc13 := (hc).frozen 13
  have lcc := (hc).lt
  have ce0 : wa.cell? ⟨ge, 0, none⟩ = some (.int .i64 k) := (he).cell 0
  have fce0 := (he).frozen 0
  have lce := (he).lt
  clear hc he
  go_wp2_with fail
  have hz := blk_puts zero14.toList zero14.toList wa 0 [] HC.out rfl rfl
  have hbz := below_put14 zero14.toList wa gc 0
  have hez := HE.out.keeps (grownBy_puts zero14.toList wa gc 0) (fun e => hne (Option.some.inj e))
  simp only [zero14, puts, Nat.zero_add, Nat.reduceAdd] at hz hbz hez
  have HZ := Lib.hid (And.intro hz (And.intro hbz hez))
  clear hz hbz hez cc0 cc1 cc2 cc3 cc4 cc5 cc6 cc7 cc8 cc9 cc10 cc11 cc12 cc13 fcc0 fcc1 fcc2 fcc3 fcc4 fcc5 fcc6 fcc7 fcc8 fcc9 fcc10 fcc11 fcc12 fcc13 lcc ce0 fce0 lce HC HE
  generalize World.setCell _ ⟨gc, 13, none⟩ (.bool false) = wb at HZ ⊢
  obtain ⟨hz, hbz, hez⟩ := HZ.out
  refine ⟨rfl, _, rfl, .tuple #[], results_none rfl _ _ _, rfl, rfl, ?_, ?_, fun B h1 h2 h3 => ?_⟩
  · exact hz.far (p := ⟨ge, 0, none⟩) hne _
  · have := hez.put 0 (.int .i64 3)
    exact this
  · exact ((Below.mono HB.out h3).trans (Below.mono hbz h1)).setCell h2 _

theorem trap_idle (gc ge : Nat) (w : World) : CallsD Try.prog 111 #[.pointer (some ⟨gc, 0, none⟩), .pointer (some ⟨ge, 0, none⟩)] .returning w fun e u' w' =>
      e = .returned (.tuple #[]) ∧ u' = .returning ∧ w' = w := by
  refine callsD_of_wpS Try.func111 rfl fun c₀ cs hu => ?_
  simp only [Try.ntmps111, List.size_toArray, List.length_cons, List.length_nil, Nat.reduceAdd, Nat.reduceSub, Array.replicate_succ, Array.replicate_zero, List.push_toArray, List.append_toArray, List.nil_append, List.cons_append]
  apply wpS_seq
  apply wpS_region
  simp [wpOpsS, go_sem, recoverD, hu, Exit.thenS]
  refine wpS_of_wp ?_
  go_wp2_with fail
  cases c₀
  simp_all [bodyPostS, results, Try.results111]

end Go.Proofs.Ytgjhaanpkfheeaa
