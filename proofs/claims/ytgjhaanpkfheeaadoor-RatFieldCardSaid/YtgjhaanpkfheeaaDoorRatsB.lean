/- The least or greatest of some, in the reference; that both loops tell the same. -/
import Derived.Test.YtgjhaanpkfheeaaDoorRats
namespace Go.Proofs.YtgjhaanpkfheeaaDoor
set_option linter.unusedVariables false
set_option linter.unusedSimpArgs false
open Go.RowKit

/-- the reference's loop -/
def bestG (sign : Int) : Rt → List Rt → Rt
  | out, [] => out
  | out, r :: l => if sureB r && sureB out then bestG sign (if cmpR r out == sign then r else out) l else (0, 0)

theorem bestG_cons (sign : Int) (out r : Rt) (l : List Rt) : bestG sign out (r :: l) = if sureB r && sureB out then bestG sign (if cmpR r out == sign then r else out) l else (0, 0) := rfl

theorem best_first (sign : Int) : ∀ (l : List Rt) (out : Rt), sureB out = true → bestG sign out l = firstG sign false out l
  | [], _, _ => rfl
  | r :: l, out, h => by
    unfold bestG firstG
    rw [h, Bool.and_true, Bool.false_or]
    cases hr : sureB r with
    | false => rfl
    | true =>
      rw [if_pos rfl, if_pos rfl]
      exact best_first sign l _ (by split <;> assumption)

theorem cmpI_self (x : Rt) : cmpI x x = 0 := by unfold cmpI; rw [if_neg (by omega), if_neg (by omega)]

theorem best_whole (sign : Int) (hs : sign ≠ 0) (x : Rt) (l : List Rt) : bestG sign x (x :: l) = firstG sign true (0, 0) (x :: l) := by
  unfold bestG firstG
  cases hx : sureB x with
  | false => rfl
  | true =>
    have hc : cmpR x x = 0 := by unfold cmpR; rw [hx]; exact cmpI_self x
    have hne : ((0 : Int) == sign) = false := by simpa using Ne.symm hs
    rw [hc, hne]
    simpa using best_first sign l x hx

/-- where the loop of best stands -/
structure Gb (w wr : World) (tr : TypeId) (sign : Int) (l : List Rt) (x : Rt) (i : Nat) (out : Rt) : Prop where
  below : Below w.heap.size w wr
  res : Blk wr w.heap.size tr #[.int .i64 0, .int .i64 0]
  best : Blk wr (w.heap.size + 1) tr #[.int .i64 out.1, .int .i64 out.2]
  i64 : Is64 out
  le : i ≤ l.length
  law : bestG sign out (l.drop i) = bestG sign x l
section
variable {w wr : World} {tr : TypeId} {sign : Int} {l : List Rt} {x : Rt} {i : Nat} {out : Rt}
theorem Gb.alloc (h : Gb w wr tr sign l x i out) (o : Obj) : Gb w (wr.alloc o) tr sign l x i out := ⟨h.below.alloc h.below.size _, h.res.old _, h.best.old _, h.i64, h.le, h.law⟩
theorem Gb.grow (h : Gb w wr tr sign l x i out) (m : Ext wr) : Gb w (grow wr m) tr sign l x i out := ⟨below_grow h.below m, h.res.grow m, h.best.grow m, h.i64, h.le, h.law⟩
theorem Gb.set (h : Gb w wr tr sign l x i out) {r : Rt} (h64 : Is64 r) (hi : i < l.length) (hl : bestG sign r (l.drop (i + 1)) = bestG sign x l) :
    Gb w ((wr.setCell ⟨w.heap.size + 1, 0, none⟩ (.int .i64 r.1)).setCell ⟨w.heap.size + 1, 1, none⟩ (.int .i64 r.2)) tr sign l x (i + 1) r :=
  ⟨(h.below.setCell (by first | omega | (simp; done) | (simp; omega)) _).setCell (by first | omega | (simp; done) | (simp; omega)) _, h.res.far2 (by first | omega | (simp; done) | (simp; omega)) _ _ _ _, h.best.put2 _ _, h64, hi, hl⟩
theorem Gb.next (h : Gb w wr tr sign l x i out) (hi : i < l.length) (hl : bestG sign out (l.drop (i + 1)) = bestG sign x l) : Gb w wr tr sign l x (i + 1) out := ⟨h.below, h.res, h.best, h.i64, hi, hl⟩
end

end Go.Proofs.YtgjhaanpkfheeaaDoor
