/- Slices of fractions, and the least or greatest of some. -/
import Derived.Test.YtgjhaanpkfheeaaRatF
namespace Go.Proofs.Ytgjhaanpkfheeaa
set_option linter.unusedVariables false
set_option linter.unusedSimpArgs false
open Go.RowKit

/-- the fractions that lie in a slice -/
structure Rats (w : World) (oa : Option Addr) (len cap : Nat) (b o : Nat) (l : List Rt) : Prop where
  hlen : len = l.length
  hcap : len ≤ cap
  small : cap ≤ maxLen
  at_ : 0 < len → oa = some ⟨b, o, none⟩
  lt : 0 < len → b < w.heap.size
  c0 : ∀ (i : Nat) (r : Rt), l[i]? = some r → w.cell? ⟨b, o + i * 2, none⟩ = some (.int .i64 r.1)
  c1 : ∀ (i : Nat) (r : Rt), l[i]? = some r → w.cell? ⟨b, o + i * 2 + 1, none⟩ = some (.int .i64 r.2)
  is64 : ∀ (i : Nat) (r : Rt), l[i]? = some r → Is64 r

theorem Rats.below {w w' : World} {oa : Option Addr} {len cap b o : Nat} {l : List Rt} (h : Rats w oa len cap b o l) (hb : Below w.heap.size w w') : Rats w' oa len cap b o l := by
  have key : ∀ (i : Nat) (r : Rt), l[i]? = some r → 0 < len := fun i r hr => by
    have := (List.getElem?_eq_some_iff.1 hr).1
    rw [h.hlen]; omega
  refine ⟨h.hlen, h.hcap, h.small, h.at_, fun hl => Nat.lt_of_lt_of_le (h.lt hl) hb.size, fun i r hr => ?_, fun i r hr => ?_, h.is64⟩
  · rw [hb.cell (h.lt (key i r hr))]; exact h.c0 i r hr
  · rw [hb.cell (h.lt (key i r hr))]; exact h.c1 i r hr

/-- the program's loop -/
def firstG (sign : Int) : Bool → Rt → List Rt → Rt
  | _, out, [] => out
  | b, out, r :: l => if sureB r then firstG sign false (if b || cmpR r out == sign then r else out) l else (0, 0)

/-- where the loop of first stands -/
structure Gf (w wr : World) (tr : TypeId) (sign : Int) (l : List Rt) (i : Nat) (out : Rt) : Prop where
  below : Below w.heap.size w wr
  res : Blk wr w.heap.size tr #[.int .i64 0, .int .i64 0]
  best : Blk wr (w.heap.size + 1) tr #[.int .i64 out.1, .int .i64 out.2]
  i64 : Is64 out
  le : i ≤ l.length
  law : firstG sign (i == 0) out (l.drop i) = firstG sign true (0, 0) l

section
variable {w wr : World} {tr : TypeId} {sign : Int} {l : List Rt} {i : Nat} {out : Rt}
theorem Gf.alloc (h : Gf w wr tr sign l i out) (o : Obj) : Gf w (wr.alloc o) tr sign l i out := ⟨h.below.alloc h.below.size _, h.res.old _, h.best.old _, h.i64, h.le, h.law⟩
theorem Gf.grow (h : Gf w wr tr sign l i out) (m : Ext wr) : Gf w (grow wr m) tr sign l i out := ⟨below_grow h.below m, h.res.grow m, h.best.grow m, h.i64, h.le, h.law⟩
theorem Gf.set (h : Gf w wr tr sign l i out) {r : Rt} (h64 : Is64 r) (hi : i < l.length) (hl : firstG sign false r (l.drop (i + 1)) = firstG sign true (0, 0) l) :
    Gf w ((wr.setCell ⟨w.heap.size + 1, 0, none⟩ (.int .i64 r.1)).setCell ⟨w.heap.size + 1, 1, none⟩ (.int .i64 r.2)) tr sign l (i + 1) r :=
  ⟨(h.below.setCell (by first | omega | (simp; done) | (simp; omega)) _).setCell (by first | omega | (simp; done) | (simp; omega)) _, h.res.far2 (by first | omega | (simp; done) | (simp; omega)) _ _ _ _, h.best.put2 _ _, h64, hi, hl⟩
theorem Gf.next (h : Gf w wr tr sign l i out) (hi : i < l.length) (hl : firstG sign false out (l.drop (i + 1)) = firstG sign true (0, 0) l) : Gf w wr tr sign l (i + 1) out := ⟨h.below, h.res, h.best, h.i64, hi, hl⟩
end

set_option maxHeartbeats 2000000 in
theorem first_any (sign : Int) (oa : Option Addr) (len cap b o : Nat) (l : List Rt) (w : World) (h : Rats w oa len cap b o l) :
    Calls Try.prog 72 #[.int .i64 sign, .slice oa len cap] w fun e w' => e = .returned (rv (firstG sign true (0, 0) l)) ∧ Below w.heap.size w w' := by
  have hlen := h.hlen
  subst hlen
  have hcap := h.hcap
  have hsm : l.length ≤ 9223372036854775807 := Nat.le_trans (Nat.le_trans h.hcap h.small) (by decide)
  have H := Lib.hid h
  clear h
  go_enter Try.func72, Try.ntmps72
  go_wp2_with fail
  go_loopg [12] l.length (fun k s wr => ∃ (i : Nat) (out : Rt), s = .int .i64 i ∧ Hid (Gf w wr 23 sign l i out) ∧ l.length - i ≤ k)
  case atStart =>
    refine ⟨0, (0, 0), rfl, Lib.hid ⟨(below_box _ _).alloc (by simp) _, (Blk.new _ _ _).old _, Blk.new2 _ _ _ _, ⟨by decide, by decide, by decide, by decide⟩, Nat.zero_le _, rfl⟩, by omega⟩
  case round =>
    obtain ⟨i, out, rfl, hg, hk⟩ := hrel
    have hle := hg.out.le
    by_cases hi : i < l.length
    · have hlt := hi
      have hr : l[i]? = some l[i] := List.getElem?_eq_getElem hlt
      have hoa := H.out.at_ (by omega)
      have hbl := H.out.lt (by omega)
      have e0 := H.out.c0 i _ hr
      have e1 := H.out.c1 i _ hr
      have h64 := H.out.is64 i _ hr
      have hdrop : l.drop i = l[i] :: l.drop (i + 1) := List.drop_eq_getElem_cons hlt
      have hlaw := hg.out.law
      rw [hdrop] at hlaw
      clear hdrop hr
      generalize l[i] = x at *
      obtain ⟨n, d⟩ := x
      subst hoa
      have f0 : wr.cell? ⟨b, o + i * 2, none⟩ = some (.int .i64 n) := (hg.out.below.cell hbl).trans e0
      have f1 : wr.cell? ⟨b, o + i * 2 + 1, none⟩ = some (.int .i64 d) := (hg.out.below.cell hbl).trans e1
      clear e0 e1 hbl
      go_wp2_with fail
      have o64 := hg.out.i64
      have hs := fun w => sure_any (n, d) w h64
      have hc := fun w => cmp_any (n, d) out w h64 o64
      have hx := Blk.new wr 23 #[.int .i64 n, .int .i64 d]
      replace hg := hg.out.alloc (.cells #[.int .i64 n, .int .i64 d] 23)
      clear f0 f1
      generalize wr.heap.size = g at *
      generalize wr.alloc _ = wa at *
      obtain ⟨p, q⟩ := out
      have cx0 : wa.cell? ⟨g, 0, none⟩ = some (.int .i64 n) := (hx).cell 0
      have fcx0 := (hx).frozen 0
      have cx1 : wa.cell? ⟨g, 1, none⟩ = some (.int .i64 d) := (hx).cell 1
      have fcx1 := (hx).frozen 1
      have lcx := (hx).lt
      have co0 : wa.cell? ⟨w.heap.size + 1, 0, none⟩ = some (.int .i64 p) := (hg.best).cell 0
      have fco0 := (hg.best).frozen 0
      have co1 : wa.cell? ⟨w.heap.size + 1, 1, none⟩ = some (.int .i64 q) := (hg.best).cell 1
      have fco1 := (hg.best).frozen 1
      have lco := (hg.best).lt
      have cr0 : wa.cell? ⟨w.heap.size, 0, none⟩ = some (.int .i64 0) := (hg.res).cell 0
      have fcr0 := (hg.res).frozen 0
      have cr1 : wa.cell? ⟨w.heap.size, 1, none⟩ = some (.int .i64 0) := (hg.res).cell 1
      have fcr1 := (hg.res).frozen 1
      have lcr := (hg.res).lt
      cases hsure : sureB (n, d) with
      | false =>
        rw [hsure] at hs
        have HS := Lib.hid hs
        have HL := Lib.hid (show firstG sign true (0, 0) l = (0, 0) by rw [← hlaw]; simp [firstG, hsure])
        clear hs hc hlaw hsure
        go_wp2_with fail
        ((with_reducible refine (HS.out _).mono ?_); rintro e w' ⟨rfl, hbw⟩)
        obtain ⟨m, rfl⟩ := grow_mk hbw
        clear hbw
        go_wp2_with fail
        exact bodyPost_ret (v := .agg #[.int .i64 0, .int .i64 0]) (by simp [results, Try.results72, go_sem, cr0, cr1, lcr]) rfl ⟨(by rw [HL.out]), (((hg.grow m).below.setCell (Nat.le_refl _) _).setCell (Nat.le_refl _) _)⟩
      | true =>
        rw [hsure] at hs
        generalize hcv : cmpR (n, d) (p, q) = c at *
        generalize (sureB (n, d) && sureB (p, q)) = c2 at *
        have HS := Lib.hid hs
        have HC := Lib.hid hc
        have HL := Lib.hid (show firstG sign false (if (i == 0) || c == sign then (n, d) else (p, q)) (l.drop (i + 1)) = firstG sign true (0, 0) l by rw [← hlaw]; simp [firstG, hsure, hcv])
        clear hs hc hlaw hsure hcv
        go_wp2_with fail
        ((with_reducible refine (HS.out _).mono ?_); rintro e w' ⟨rfl, hbw⟩)
        obtain ⟨m, rfl⟩ := grow_mk hbw
        clear hbw
        go_wp2_with fail
        ((with_reducible refine (HC.out _).mono ?_); rintro e w' ⟨rfl, hbw⟩)
        obtain ⟨m2, rfl⟩ := grow_mk hbw
        clear hbw
        by_cases hi0 : i = 0
        · subst hi0
          have HL := Lib.hid (show firstG sign false (n, d) (l.drop (0 + 1)) = firstG sign true (0, 0) l by have := HL.out; simpa using this)
          go_wp2_with fail
          go_roundg (l.length - 1)
          case measure => omega
          case rel => exact ⟨1, (n, d), rfl, Lib.hid (((hg.grow m).grow m2).set h64 hlt HL.out), by omega⟩
        · have g1 : ((i : Int) == 0) = false := by simpa using hi0
          have g2 : (i == 0) = false := by simpa using hi0
          by_cases hcs : c = sign
          · subst hcs
            have HL := Lib.hid (show firstG c false (n, d) (l.drop (i + 1)) = firstG c true (0, 0) l by have := HL.out; simpa using this)
            go_wp2_with fail
            go_roundg (l.length - (i + 1))
            case measure => omega
            case rel => exact ⟨i + 1, (n, d), by go_num, Lib.hid (((hg.grow m).grow m2).set h64 hlt HL.out), by omega⟩
          · have g3 : (c == sign) = false := by simpa using hcs
            have HL := Lib.hid (show firstG sign false (p, q) (l.drop (i + 1)) = firstG sign true (0, 0) l by have := HL.out; simpa [g2, g3] using this)
            go_wp2_with fail
            go_roundg (l.length - (i + 1))
            case measure => omega
            case rel => exact ⟨i + 1, (p, q), by go_num, Lib.hid (((hg.grow m).grow m2).next hlt HL.out), by omega⟩
    · obtain rfl : i = l.length := by omega
      obtain ⟨p, q⟩ := out
      have HL := Lib.hid hg.out.law
      rw [List.drop_length] at HL
      have co0 : wr.cell? ⟨w.heap.size + 1, 0, none⟩ = some (.int .i64 p) := (hg.out.best).cell 0
      have fco0 := (hg.out.best).frozen 0
      have co1 : wr.cell? ⟨w.heap.size + 1, 1, none⟩ = some (.int .i64 q) := (hg.out.best).cell 1
      have fco1 := (hg.out.best).frozen 1
      have lco := (hg.out.best).lt
      have cr0 : wr.cell? ⟨w.heap.size, 0, none⟩ = some (.int .i64 0) := (hg.out.res).cell 0
      have fcr0 := (hg.out.res).frozen 0
      have cr1 : wr.cell? ⟨w.heap.size, 1, none⟩ = some (.int .i64 0) := (hg.out.res).cell 1
      have fcr1 := (hg.out.res).frozen 1
      have lcr := (hg.out.res).lt
      go_wp2_with fail
      exact bodyPost_ret (v := .agg #[.int .i64 p, .int .i64 q]) (by simp [results, Try.results72, go_sem, cr0, cr1, lcr]) rfl ⟨(by rw [← HL.out]; rfl), ((hg.out.below.setCell (Nat.le_refl _) _).setCell (Nat.le_refl _) _)⟩

end Go.Proofs.Ytgjhaanpkfheeaa
