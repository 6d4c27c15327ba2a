/- The least or greatest of some, in the reference; that both loops tell the same. -/
import Derived.Test.YtgjhaanpkfheeaaRats
namespace Go.Proofs.Ytgjhaanpkfheeaa
set_option linter.unusedVariables false
set_option linter.unusedSimpArgs false
open Go.RowKit

/-- the reference's loop -/
def bestG (sign : Int) : Rt → List Rt → Rt
  | out, [] => out
  | out, r :: l => if sureB r && sureB out then bestG sign (if cmpR r out == sign then r else out) l else (0, 0)

theorem bestG_cons (sign : Int) (out r : Rt) (l : List Rt) : bestG sign out (r :: l) = if sureB r && sureB out then bestG sign (if cmpR r out == sign then r else out) l else (0, 0) := rfl

theorem best_first (sign : Int) : ∀ (l : List Rt) (out : Rt), sureB out = true → bestG sign out l = firstG sign false out l
  | [], _, _ => rfl
  | r :: l, out, h => by
    unfold bestG firstG
    rw [h, Bool.and_true, Bool.false_or]
    cases hr : sureB r with
    | false => rfl
    | true =>
      rw [if_pos rfl, if_pos rfl]
      exact best_first sign l _ (by split <;> assumption)

theorem cmpI_self (x : Rt) : cmpI x x = 0 := by unfold cmpI; rw [if_neg (by omega), if_neg (by omega)]

theorem best_whole (sign : Int) (hs : sign ≠ 0) (x : Rt) (l : List Rt) : bestG sign x (x :: l) = firstG sign true (0, 0) (x :: l) := by
  unfold bestG firstG
  cases hx : sureB x with
  | false => rfl
  | true =>
    have hc : cmpR x x = 0 := by unfold cmpR; rw [hx]; exact cmpI_self x
    have hne : ((0 : Int) == sign) = false := by simpa using Ne.symm hs
    rw [hc, hne]
    simpa using best_first sign l x hx

/-- where the loop of best stands -/
structure Gb (w wr : World) (tr : TypeId) (sign : Int) (l : List Rt) (x : Rt) (i : Nat) (out : Rt) : Prop where
  below : Below w.heap.size w wr
  res : Blk wr w.heap.size tr #[.int .i64 0, .int .i64 0]
  best : Blk wr (w.heap.size + 1) tr #[.int .i64 out.1, .int .i64 out.2]
  i64 : Is64 out
  le : i ≤ l.length
  law : bestG sign out (l.drop i) = bestG sign x l
section
variable {w wr : World} {tr : TypeId} {sign : Int} {l : List Rt} {x : Rt} {i : Nat} {out : Rt}
theorem Gb.alloc (h : Gb w wr tr sign l x i out) (o : Obj) : Gb w (wr.alloc o) tr sign l x i out := ⟨h.below.alloc h.below.size _, h.res.old _, h.best.old _, h.i64, h.le, h.law⟩
theorem Gb.grow (h : Gb w wr tr sign l x i out) (m : Ext wr) : Gb w (grow wr m) tr sign l x i out := ⟨below_grow h.below m, h.res.grow m, h.best.grow m, h.i64, h.le, h.law⟩
theorem Gb.set (h : Gb w wr tr sign l x i out) {r : Rt} (h64 : Is64 r) (hi : i < l.length) (hl : bestG sign r (l.drop (i + 1)) = bestG sign x l) :
    Gb w ((wr.setCell ⟨w.heap.size + 1, 0, none⟩ (.int .i64 r.1)).setCell ⟨w.heap.size + 1, 1, none⟩ (.int .i64 r.2)) tr sign l x (i + 1) r :=
  ⟨(h.below.setCell (by first | omega | (simp; done) | (simp; omega)) _).setCell (by first | omega | (simp; done) | (simp; omega)) _, h.res.far2 (by first | omega | (simp; done) | (simp; omega)) _ _ _ _, h.best.put2 _ _, h64, hi, hl⟩
theorem Gb.next (h : Gb w wr tr sign l x i out) (hi : i < l.length) (hl : bestG sign out (l.drop (i + 1)) = bestG sign x l) : Gb w wr tr sign l x (i + 1) out := ⟨h.below, h.res, h.best, h.i64, hi, hl⟩
end

set_option maxHeartbeats 2000000 in
theorem best_any (sign : Int) (oa : Option Addr) (len cap b o : Nat) (l : List Rt) (w : World) (h : Rats w oa len cap b o l) (hsign : sign ≠ 0) :
    Calls Try.prog 73 #[.int .i64 sign, .slice oa len cap] w fun e w' => e = .returned (rv (firstG sign true (0, 0) l)) ∧ Below w.heap.size w w' := by
  have hlen := h.hlen
  subst hlen
  have hsm : l.length ≤ 9223372036854775807 := Nat.le_trans (Nat.le_trans h.hcap h.small) (by decide)
  have H := Lib.hid h
  clear h
  have HO := Lib.hid (fun w => over_any w)
  cases l with
  | nil =>
    go_enter Try.func73, Try.ntmps73
    go_wp2_with fail
    ((with_reducible refine (HO.out _).mono ?_); rintro e w' ⟨rfl, hbw⟩)
    obtain ⟨m, rfl⟩ := grow_mk hbw
    clear hbw
    go_wp2_with fail
    exact bodyPost_ret (v := .agg #[.int .i64 0, .int .i64 0]) (by simp [results, Try.results73, go_sem]) rfl ⟨rfl, (((below_grow (below_box _ _) m).setCell (Nat.le_refl _) _).setCell (Nat.le_refl _) _)⟩
  | cons x l =>
    have HW := Lib.hid (best_whole sign hsign x l)
    have hoa := H.out.at_ (by simp)
    have hbl := H.out.lt (by simp)
    have e0 := H.out.c0 0 x rfl
    have e1 := H.out.c1 0 x rfl
    have x64 := H.out.is64 0 x rfl
    simp only [Nat.zero_mul, Nat.add_zero] at e0 e1
    generalize hl : x :: l = L at *
    have hpos : 0 < L.length := by rw [← hl]; simp
    clear hl
    subst hoa
    obtain ⟨n0, d0⟩ := x
    simp only at e0 e1
    have gL : ((L.length : Int) == 0) = false := by rw [beq_eq_false_iff_ne]; omega
    go_enter Try.func73, Try.ntmps73
    go_wp2_with fail
    go_loopg [19] L.length (fun k s wr => ∃ (i : Nat) (out : Rt), s = .int .i64 i ∧ Hid (Gb w wr 23 sign L (n0, d0) i out) ∧ L.length - i ≤ k)
    case atStart =>
      refine ⟨0, (n0, d0), rfl, Lib.hid ⟨(below_box _ _).alloc (by simp) _, (Blk.new _ _ _).old _, Blk.new2 _ _ _ _, x64, Nat.zero_le _, rfl⟩, by omega⟩
    case round =>
      obtain ⟨i, out, rfl, hg, hk⟩ := hrel
      have hle := hg.out.le
      by_cases hi : i < L.length
      · have hr : L[i]? = some L[i] := List.getElem?_eq_getElem hi
        clear e0 e1
        have e0 := H.out.c0 i _ hr
        have e1 := H.out.c1 i _ hr
        have h64 := H.out.is64 i _ hr
        have hdrop : L.drop i = L[i] :: L.drop (i + 1) := List.drop_eq_getElem_cons hi
        have hlaw := hg.out.law
        rw [hdrop] at hlaw
        clear hdrop hr
        generalize L[i] = x at *
        obtain ⟨n, d⟩ := x
        have f0 : wr.cell? ⟨b, o + i * 2, none⟩ = some (.int .i64 n) := (hg.out.below.cell hbl).trans e0
        have f1 : wr.cell? ⟨b, o + i * 2 + 1, none⟩ = some (.int .i64 d) := (hg.out.below.cell hbl).trans e1
        clear e0 e1
        obtain ⟨p, q⟩ := out
        have cp0 : wr.cell? ⟨w.heap.size + 1, 0, none⟩ = some (.int .i64 p) := (hg.out.best).cell 0
        have fcp0 := (hg.out.best).frozen 0
        have cp1 : wr.cell? ⟨w.heap.size + 1, 1, none⟩ = some (.int .i64 q) := (hg.out.best).cell 1
        have fcp1 := (hg.out.best).frozen 1
        have lcp := (hg.out.best).lt
        go_wp2_with fail
        clear cp0 cp1 fcp0 fcp1 lcp
        have o64 := hg.out.i64
        have hc := fun w => rcmp_any (n, d) (p, q) w h64 o64
        have hx := Blk.new wr 23 #[.int .i64 n, .int .i64 d]
        replace hg := hg.out.alloc (.cells #[.int .i64 n, .int .i64 d] 23)
        clear f0 f1
        generalize wr.heap.size = g at *
        generalize wr.alloc _ = wa at *
        have cx0 : wa.cell? ⟨g, 0, none⟩ = some (.int .i64 n) := (hx).cell 0
        have fcx0 := (hx).frozen 0
        have cx1 : wa.cell? ⟨g, 1, none⟩ = some (.int .i64 d) := (hx).cell 1
        have fcx1 := (hx).frozen 1
        have lcx := (hx).lt
        have co0 : wa.cell? ⟨w.heap.size + 1, 0, none⟩ = some (.int .i64 p) := (hg.best).cell 0
        have fco0 := (hg.best).frozen 0
        have co1 : wa.cell? ⟨w.heap.size + 1, 1, none⟩ = some (.int .i64 q) := (hg.best).cell 1
        have fco1 := (hg.best).frozen 1
        have lco := (hg.best).lt
        have cr0 : wa.cell? ⟨w.heap.size, 0, none⟩ = some (.int .i64 0) := (hg.res).cell 0
        have fcr0 := (hg.res).frozen 0
        have cr1 : wa.cell? ⟨w.heap.size, 1, none⟩ = some (.int .i64 0) := (hg.res).cell 1
        have fcr1 := (hg.res).frozen 1
        have lcr := (hg.res).lt
        generalize hcv : cmpR (n, d) (p, q) = c at *
        cases hsure : (sureB (n, d) && sureB (p, q)) with
        | false =>
          rw [hsure] at hc
          have HC := Lib.hid hc
          have HL := Lib.hid (show firstG sign true (0, 0) L = (0, 0) by rw [← HW.out, ← hlaw, bestG_cons, hsure]; rfl)
          clear hc hlaw hsure hcv HW
          go_wp2_with fail
          ((with_reducible refine (HC.out _).mono ?_); rintro e w' ⟨rfl, hbw⟩)
          obtain ⟨m, rfl⟩ := grow_mk hbw
          clear hbw
          go_wp2_with fail
          ((with_reducible refine (HO.out _).mono ?_); rintro e w' ⟨rfl, hbw⟩)
          obtain ⟨m2, rfl⟩ := grow_mk hbw
          clear hbw
          go_wp2_with fail
          exact bodyPost_ret (v := .agg #[.int .i64 0, .int .i64 0]) (by simp [results, Try.results73, go_sem, cr0, cr1, lcr]) rfl ⟨(by rw [HL.out]), ((((hg.grow m).grow m2).below.setCell (Nat.le_refl _) _).setCell (Nat.le_refl _) _)⟩
        | true =>
          rw [hsure] at hc
          have HC := Lib.hid hc
          have HL := Lib.hid (show bestG sign (if c == sign then (n, d) else (p, q)) (L.drop (i + 1)) = bestG sign (n0, d0) L by rw [← hlaw, bestG_cons, hsure, hcv, if_pos rfl])
          clear hc hlaw hsure hcv
          go_wp2_with fail
          ((with_reducible refine (HC.out _).mono ?_); rintro e w' ⟨rfl, hbw⟩)
          obtain ⟨m, rfl⟩ := grow_mk hbw
          clear hbw
          by_cases hcs : c = sign
          · subst hcs
            have HL := Lib.hid (show bestG c (n, d) (L.drop (i + 1)) = bestG c (n0, d0) L by have := HL.out; simpa using this)
            go_wp2_with fail
            go_roundg (L.length - (i + 1))
            case measure => omega
            case rel => exact ⟨i + 1, (n, d), by go_num, Lib.hid ((hg.grow m).set h64 hi HL.out), by omega⟩
          · have g3 : (c == sign) = false := by simpa using hcs
            have HL := Lib.hid (show bestG sign (p, q) (L.drop (i + 1)) = bestG sign (n0, d0) L by have := HL.out; simpa [g3] using this)
            go_wp2_with fail
            go_roundg (L.length - (i + 1))
            case measure => omega
            case rel => exact ⟨i + 1, (p, q), by go_num, Lib.hid ((hg.grow m).next hi HL.out), by omega⟩
      · obtain rfl : i = L.length := by omega
        obtain ⟨p, q⟩ := out
        have HL := hg.out.law
        rw [List.drop_length, HW.out] at HL
        have HL := Lib.hid HL
        have co0 : wr.cell? ⟨w.heap.size + 1, 0, none⟩ = some (.int .i64 p) := (hg.out.best).cell 0
        have fco0 := (hg.out.best).frozen 0
        have co1 : wr.cell? ⟨w.heap.size + 1, 1, none⟩ = some (.int .i64 q) := (hg.out.best).cell 1
        have fco1 := (hg.out.best).frozen 1
        have lco := (hg.out.best).lt
        have cr0 : wr.cell? ⟨w.heap.size, 0, none⟩ = some (.int .i64 0) := (hg.out.res).cell 0
        have fcr0 := (hg.out.res).frozen 0
        have cr1 : wr.cell? ⟨w.heap.size, 1, none⟩ = some (.int .i64 0) := (hg.out.res).cell 1
        have fcr1 := (hg.out.res).frozen 1
        have lcr := (hg.out.res).lt
        go_wp2_with fail
        exact bodyPost_ret (v := .agg #[.int .i64 p, .int .i64 q]) (by simp [results, Try.results73, go_sem, cr0, cr1, lcr]) rfl ⟨(by rw [← HL.out]; rfl), ((hg.out.below.setCell (Nat.le_refl _) _).setCell (Nat.le_refl _) _)⟩

end Go.Proofs.Ytgjhaanpkfheeaa
