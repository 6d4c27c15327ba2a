/- A condition's truth, the program's word; the function that looks names up. -/
import Derived.Test.YtgjhaanpkfheeaaKleeneM
import Derived.Test.YtgjhaanpkfheeaaAwakeC
namespace Go.Proofs.Ytgjhaanpkfheeaa
set_option linter.unusedVariables false
set_option linter.unusedSimpArgs false
open Go.RowKit

set_option maxRecDepth 20000 in
set_option maxHeartbeats 4000000 in
theorem cEval_by (gN gT : Nat) (eoa : Option Addr) (elen ecap eb eo : Nat) (ns : List ByteArray) (toa : Option Addr) (tlen tcap tb tf : Nat) (ts : List Int) (h : Nat) (e : Cd) (w : World) (hx : CdIn w h e) (hEnv : Env w gN gT eoa elen ecap eb eo ns toa tlen tcap tb tf ts) :
    Calls Try.prog 44 #[cv e, .func (.func 83) #[] #[.pointer (some ⟨gN, 0, none⟩), .pointer (some ⟨gT, 0, none⟩)]] w fun x w' => x = .returned (.int .i64 (evalM (fun lf => byF ns ts lf.name) h e)) ∧ Below w.heap.size w w' := by
  have hM := fun wx hb => cMayC_any h e wx (hx.below h (w' := wx) hb)
  have hE := fun wx hb hm => eval_by gN gT eoa elen ecap eb eo ns toa tlen tcap tb tf ts h 340 e wx (hx.below h (w' := wx) hb) hm (hEnv.below hb)
  unfold evalM
  generalize evalC (fun lf => byF ns ts lf.name) h e = R at *
  cases hm : mayC 340 e with
  | false =>
    rw [if_neg (by decide)]
    rw [hm] at hM
    obtain ⟨c, oa, b, o, cap, kids, ⟨lk, lt, nm, op, ⟨k', n, d, u, oa', b', o', cap', kids'⟩, wd, vl, an⟩⟩ := e
    simp only [cv_mk] at hM ⊢
    have HM := Lib.hid hM
    clear hM hE hm hx
    go_enter Try.func44, Try.ntmps44
    go_wp2_with fail
    ((with_reducible refine (HM.out _ (below_box _ _)).mono ?_); rintro e w' ⟨rfl, hbw⟩)
    obtain ⟨m, rfl⟩ := grow_mk hbw
    clear hbw
    go_wp2_with fail
    go_ret
    exact ⟨rfl, below_grow (below_box _ _) m⟩
  | true =>
    rw [if_pos rfl]
    have hE2 := fun wx hb => hE wx hb hm
    rw [hm] at hM
    obtain ⟨c, oa, b, o, cap, kids, ⟨lk, lt, nm, op, ⟨k', n, d, u, oa', b', o', cap', kids'⟩, wd, vl, an⟩⟩ := e
    simp only [cv_mk] at hM hE2 ⊢
    have HM := Lib.hid hM
    have HE := Lib.hid hE2
    clear hM hE hE2 hm hx
    go_enter Try.func44, Try.ntmps44
    go_wp2_with fail
    ((with_reducible refine (HM.out _ (below_box _ _)).mono ?_); rintro e w' ⟨rfl, hbw⟩)
    obtain ⟨m, rfl⟩ := grow_mk hbw
    clear hbw
    go_wp2_with fail
    ((with_reducible refine (HE.out _ (below_grow (below_box _ _) m)).mono ?_); rintro e w' ⟨rfl, hbw⟩)
    obtain ⟨m2, rfl⟩ := grow_mk hbw
    clear hbw
    go_wp2_with fail
    go_ret
    exact ⟨rfl, by first | exact below_grow (below_grow (below_box _ _) m) m2 | exact below_grow (below_box _ _) _⟩

set_option maxRecDepth 20000 in
set_option maxHeartbeats 4000000 in
theorem cEval_nil (h : Nat) (e : Cd) (w : World) (hx : CdIn w h e) :
    Calls Try.prog 44 #[cv e, .nilFunc] w fun x w' => x = .returned (.int .i64 (evalM (fun _ => 1) h e)) ∧ Below w.heap.size w w' := by
  have hM := fun wx hb => cMayC_any h e wx (hx.below h (w' := wx) hb)
  have hE := fun wx hb hm => eval_nil h 340 e wx (hx.below h (w' := wx) hb) hm
  unfold evalM
  generalize evalC (fun _ => 1) h e = R at *
  cases hm : mayC 340 e with
  | false =>
    rw [if_neg (by decide)]
    rw [hm] at hM
    obtain ⟨c, oa, b, o, cap, kids, ⟨lk, lt, nm, op, ⟨k', n, d, u, oa', b', o', cap', kids'⟩, wd, vl, an⟩⟩ := e
    simp only [cv_mk] at hM ⊢
    have HM := Lib.hid hM
    clear hM hE hm hx
    go_enter Try.func44, Try.ntmps44
    go_wp2_with fail
    ((with_reducible refine (HM.out _ (below_box _ _)).mono ?_); rintro e w' ⟨rfl, hbw⟩)
    obtain ⟨m, rfl⟩ := grow_mk hbw
    clear hbw
    go_wp2_with fail
    go_ret
    exact ⟨rfl, below_grow (below_box _ _) m⟩
  | true =>
    rw [if_pos rfl]
    have hE2 := fun wx hb => hE wx hb hm
    rw [hm] at hM
    obtain ⟨c, oa, b, o, cap, kids, ⟨lk, lt, nm, op, ⟨k', n, d, u, oa', b', o', cap', kids'⟩, wd, vl, an⟩⟩ := e
    simp only [cv_mk] at hM hE2 ⊢
    have HM := Lib.hid hM
    have HE := Lib.hid hE2
    clear hM hE hE2 hm hx
    go_enter Try.func44, Try.ntmps44
    go_wp2_with fail
    ((with_reducible refine (HM.out _ (below_box _ _)).mono ?_); rintro e w' ⟨rfl, hbw⟩)
    obtain ⟨m, rfl⟩ := grow_mk hbw
    clear hbw
    go_wp2_with fail
    ((with_reducible refine (HE.out _ (below_grow (below_box _ _) m)).mono ?_); rintro e w' ⟨rfl, hbw⟩)
    obtain ⟨m2, rfl⟩ := grow_mk hbw
    clear hbw
    go_wp2_with fail
    go_ret
    exact ⟨rfl, by first | exact below_grow (below_grow (below_box _ _) m) m2 | exact below_grow (below_box _ _) _⟩

set_option maxHeartbeats 1000000 in
theorem byC_any (eoa : Option Addr) (elen ecap eb eo : Nat) (ns : List ByteArray) (toa : Option Addr) (tlen tcap tb tf : Nat) (ts : List Int) (w : World) (h1 : Strs w eoa elen ecap eb eo ns) (h2 : Ints w toa tlen tcap tb tf ts) :
    Calls Try.prog 43 #[.slice eoa elen ecap, .slice toa tlen tcap] w fun x w' => (∃ gN gT, x = .returned (.func (.func 83) #[] #[.pointer (some ⟨gN, 0, none⟩), .pointer (some ⟨gT, 0, none⟩)]) ∧ Env w' gN gT eoa elen ecap eb eo ns toa tlen tcap tb tf ts) ∧ Below w.heap.size w w' := by
  have HE := Lib.hid (fun wx (hb : Below w.heap.size w wx) => And.intro (h1.below hb) (h2.below hb))
  clear h1 h2
  go_enter Try.func43, Try.ntmps43
  go_wp2_with fail
  go_ret
  have hb : Below w.heap.size w ((w.alloc (.cells #[.slice eoa elen ecap] 50)).alloc (.cells #[.slice toa tlen tcap] 36)) := (below_box _ _).alloc (by simp) _
  exact ⟨⟨_, _, rfl, ⟨(HE.out _ hb).1, (HE.out _ hb).2, (Blk.new _ _ _).old _, Blk.new2 _ _ _ _⟩⟩, hb⟩

/-- a call whose value and what stands behind it are some -/
def Loose.fn (i : Nat) (d : Tmp) (φ : Value → World → Prop) (hs : ∀ v w1 w2, φ v w1 → Below w1.heap.size w1 w2 → φ v w2) : Loose := ⟨i, d, none, φ, fun _ => none, hs⟩
section
variable (V : Nat → Value) (w : World) (i : Nat) (d : Tmp) (φ : Value → World → Prop) (hs : ∀ v w1 w2, φ v w1 → Below w1.heap.size w1 w2 → φ v w2) (cl : List Loose)
theorem Loose.fn_i : (Loose.fn i d φ hs).i = i := rfl
theorem Loose.fn_hush (o : Oper) : (Loose.fn i d φ hs).hush o = { o with dst := none, op := .move (.const undef), guard := none } := rfl
theorem fill_fn (a : Act) : fill V (Loose.fn i d φ hs :: cl) a = fill V cl (a.put (some d) (V i)) := rfl
theorem laws_fn : lawsL V w (Loose.fn i d φ hs :: cl) = (φ (V i) w ∧ lawsL V w cl) := rfl
theorem dist_fn : distL V (Loose.fn i d φ hs :: cl) = distL V cl := by
  have h : ∀ cl : List Loose, distL1 V (Loose.fn i d φ hs) cl := fun cl => distL1_of fun L' _ k k' h => by cases h
  simp [distL, h]
end
theorem post_fn {i : Nat} {d : Tmp} {φ : Value → World → Prop} {hs : ∀ v w1 w2, φ v w1 → Below w1.heap.size w1 w2 → φ v w2} {v : Value} {F : Act} {w w' : World} {a : Act} (h : a = F.put (some d) v) (hv : φ v w') (hb : Below w.heap.size w w') : PostL (Loose.fn i d φ hs) F w .normal a w' :=
  ⟨rfl, _, h, hb, hv, fun k hk => (by cases hk), fun c2 hc => (by cases hc)⟩

/-- a function that looks names up -/
def isBy (eoa : Option Addr) (elen ecap eb eo : Nat) (ns : List ByteArray) (toa : Option Addr) (tlen tcap tb tf : Nat) (ts : List Int) (v : Value) (w : World) : Prop :=
  ∃ gN gT, v = .func (.func 83) #[] #[.pointer (some ⟨gN, 0, none⟩), .pointer (some ⟨gT, 0, none⟩)] ∧ Env w gN gT eoa elen ecap eb eo ns toa tlen tcap tb tf ts
theorem isBy_stays (eoa : Option Addr) (elen ecap eb eo : Nat) (ns : List ByteArray) (toa : Option Addr) (tlen tcap tb tf : Nat) (ts : List Int) : ∀ v w1 w2, isBy eoa elen ecap eb eo ns toa tlen tcap tb tf ts v w1 → Below w1.heap.size w1 w2 → isBy eoa elen ecap eb eo ns toa tlen tcap tb tf ts v w2 :=
  fun _ _ _ ⟨gN, gT, hv, he⟩ hb => ⟨gN, gT, hv, he.below hb⟩

end Go.Proofs.Ytgjhaanpkfheeaa
