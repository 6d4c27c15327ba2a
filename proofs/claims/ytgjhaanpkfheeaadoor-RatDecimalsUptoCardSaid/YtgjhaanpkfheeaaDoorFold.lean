/- What comes of fractions, two by two: the plain law. -/
import Derived.Test.YtgjhaanpkfheeaaDoorRatE
import Derived.Test.YtgjhaanpkfheeaaDoorRatD
namespace Go.Proofs.YtgjhaanpkfheeaaDoor
set_option linter.unusedVariables false
set_option linter.unusedSimpArgs false
open Go.RowKit

/-! calls in a region whose world has grown before -/
theorem calls_grow_same2 {P : Program} {f : FuncId} {args : Array Value} {w : World} {m : Ext w} {x : Ext (grow w m)} {v : Value}
    (h : Calls P f args (grow w (m.trans x)) fun e w' => e = .returned v ∧ grow w (m.trans x) = w') :
    Calls P f args (grow w (m.trans x)) fun e w'' => e = .returned v ∧ ∃ n, w'' = grow w (m.trans n) :=
  h.mono fun _ _ ⟨he, hb⟩ => ⟨he, x, hb.symm⟩
theorem calls_grow2 {P : Program} {f : FuncId} {args : Array Value} {w : World} {m : Ext w} {x : Ext (grow w m)} {v : Value}
    (h : Calls P f args (grow w (m.trans x)) fun e w' => e = .returned v ∧ Below (grow w (m.trans x)).heap.size (grow w (m.trans x)) w') :
    Calls P f args (grow w (m.trans x)) fun e w'' => e = .returned v ∧ ∃ n, w'' = grow w (m.trans n) :=
  h.mono fun _ w'' ⟨he, hb⟩ => by
    rw [← grow_grow] at hb
    obtain ⟨k, rfl⟩ := grow_mk ((grow_below x).trans (hb.mono (grow_size x)))
    exact ⟨he, k, grow_grow ..⟩

/-- two by two, the first being told -/
def opG (op : Rt → Rt → Rt) : Rt → List Rt → Rt
  | out, [] => out
  | out, r :: l => if sureB out && sureB r then opG op (op out r) l else (0, 0)
/-- two by two, as the program does -/
def foldR (op : Rt → Rt → Rt) (none : Rt) : List Rt → Rt
  | [] => none
  | x :: l => if sureB x then opG op x l else (0, 0)
/-- it, or over -/
def cleanR (x : Rt) : Rt := if mayB x then x else (0, 0)
/-- of two: over, if one is -/
def op2 (op : Rt → Rt → Rt) (a b : Rt) : Rt := if sureB a && sureB b then op a b else (0, 0)
/-- two by two, as the reference does -/
def refG (op : Rt → Rt → Rt) : Rt → List Rt → Rt
  | p, [] => p
  | p, r :: l => refG op (op2 op p r) l
def refR (op : Rt → Rt → Rt) (none : Rt) : List Rt → Rt
  | [] => none
  | x :: l => refG op (cleanR x) l

theorem sureB_over : sureB (0, 0) = false := by decide
theorem cleanR_sure (x : Rt) : cleanR x = if sureB x then x else (0, 0) := by
  unfold cleanR mayB
  cases h : sureB x with
  | true => simp
  | false =>
    obtain ⟨n, d⟩ := x
    simp only [Bool.or_false, Bool.and_eq_true, decide_eq_true_eq, Bool.false_eq_true, if_false]
    by_cases hx : n = 0 ∧ d = 0
    · rw [if_pos hx, hx.1, hx.2]
    · rw [if_neg hx]

theorem refG_over (op : Rt → Rt → Rt) : ∀ l, refG op (0, 0) l = (0, 0)
  | [] => rfl
  | r :: l => by
    unfold refG op2
    rw [sureB_over, Bool.false_and]
    exact refG_over op l

theorem refG_eq (op : Rt → Rt → Rt) : ∀ (l : List Rt) (p : Rt), refG op p l = opG op p l
  | [], _ => rfl
  | r :: l, p => by
    unfold refG opG op2
    cases h : (sureB p && sureB r) with
    | true => exact refG_eq op l _
    | false => exact refG_over op l

theorem fold_ref (op : Rt → Rt → Rt) (none : Rt) : ∀ l, refR op none l = foldR op none l
  | [] => rfl
  | x :: l => by
    show refG op (cleanR x) l = if sureB x then opG op x l else (0, 0)
    rw [cleanR_sure]
    cases h : sureB x with
    | true => exact refG_eq op l _
    | false => exact refG_over op l

/-- the product of two that are not over -/
def mulF (a b : Rt) : Rt := fracOf (neg2 a.1 b.1) (a.1.natAbs * b.1.natAbs) (a.2.toNat * b.2.toNat)

theorem is64_fracOf (neg : Bool) (n d : Nat) : Is64 (fracOf neg n d) := by
  unfold fracOf
  split
  · exact ⟨by decide, by decide, by decide, by decide⟩
  · rename_i h
    unfold maxI at h
    generalize n / Nat.gcd n d = x at *
    generalize d / Nat.gcd n d = y at *
    cases neg <;> refine ⟨?_, ?_, ?_, ?_⟩ <;> simp <;> omega

theorem is64_mulF (a b : Rt) : Is64 (mulF a b) := is64_fracOf _ _ _
theorem is64_over : Is64 (0, 0) := ⟨by decide, by decide, by decide, by decide⟩
theorem is64_cleanR {x : Rt} (h : Is64 x) : Is64 (cleanR x) := by unfold cleanR; split; exact h; exact is64_over
theorem is64_op2 {op : Rt → Rt → Rt} (h : ∀ a b, Is64 (op a b)) (a b : Rt) : Is64 (op2 op a b) := by unfold op2; split; exact h a b; exact is64_over

end Go.Proofs.YtgjhaanpkfheeaaDoor
