/- The product of some, in the reference. -/
import Derived.Test.YtgjhaanpkfheeaaMulR
namespace Go.Proofs.Ytgjhaanpkfheeaa
set_option linter.unusedVariables false
set_option linter.unusedSimpArgs false
open Go.RowKit

/-- where the loop of Mul stands -/
structure Gr (w wr : World) (tr : TypeId) (g : Nat) (op : Rt → Rt → Rt) (nn : Rt) (l : List Rt) (i : Nat) (out : Rt) : Prop where
  below : Below w.heap.size w wr
  res : Blk wr w.heap.size tr #[.int .i64 0, .int .i64 0]
  best : Blk wr g tr #[.int .i64 out.1, .int .i64 out.2]
  far : w.heap.size < g
  i64 : Is64 out
  le : i ≤ l.length
  law : 0 < i → refG op out (l.drop i) = refR op nn l
  zero : i = 0 → out = nn
section
variable {w wr : World} {tr : TypeId} {g : Nat} {op : Rt → Rt → Rt} {nn : Rt} {l : List Rt} {i : Nat} {out : Rt}
theorem Gr.alloc (h : Gr w wr tr g op nn l i out) (o : Obj) : Gr w (wr.alloc o) tr g op nn l i out := ⟨h.below.alloc h.below.size _, h.res.old _, h.best.old _, h.far, h.i64, h.le, h.law, h.zero⟩
theorem Gr.grow (h : Gr w wr tr g op nn l i out) (m : Ext wr) : Gr w (grow wr m) tr g op nn l i out := ⟨below_grow h.below m, h.res.grow m, h.best.grow m, h.far, h.i64, h.le, h.law, h.zero⟩
theorem Gr.set (h : Gr w wr tr g op nn l i out) {r : Rt} (h64 : Is64 r) (hi : i < l.length) (hl : refG op r (l.drop (i + 1)) = refR op nn l) :
    Gr w ((wr.setCell ⟨g, 0, none⟩ (.int .i64 r.1)).setCell ⟨g, 1, none⟩ (.int .i64 r.2)) tr g op nn l (i + 1) r :=
  ⟨(h.below.setCell (Nat.le_of_lt h.far) _).setCell (Nat.le_of_lt h.far) _, h.res.far2 (Nat.ne_of_lt h.far) _ _ _ _, h.best.put2 _ _, h.far, h64, hi, fun _ => hl, fun h => by omega⟩
end

set_option maxHeartbeats 2000000 in
theorem rMul_any (oa : Option Addr) (len cap b o : Nat) (l : List Rt) (w : World) (h : Rats w oa len cap b o l) :
    Calls Try.prog 31 #[.slice oa len cap] w fun e w' => e = .returned (rv (refR mulF (1, 1) l)) ∧ Below w.heap.size w w' := by
  have hlen := h.hlen
  subst hlen
  have hcap := h.hcap
  have hsm : l.length ≤ 9223372036854775807 := Nat.le_trans (Nat.le_trans h.hcap h.small) (by decide)
  have H := Lib.hid h
  have HI := Lib.hid (fun w => int_any 1 w)
  clear h
  go_enter Try.func31, Try.ntmps31
  go_wp2_with fail
  ((with_reducible refine (HI.out _).mono ?_); rintro e w' ⟨rfl, hbw⟩)
  obtain ⟨m0, rfl⟩ := grow_mk hbw
  clear hbw
  go_wp2_with fail
  generalize hg0 : (grow (w.alloc _) m0).heap.size = g at *
  have hfar : w.heap.size < g := by
    have := grow_size m0
    rw [hg0] at this
    simp at this; omega
  have h1 : Blk ((grow (w.alloc (.cells #[.int .i64 0, .int .i64 0] 23)) m0).alloc (.cells #[.int .i64 1, .int .i64 1] 23)) g 23 #[.int .i64 1, .int .i64 1] := (Blk.new _ _ _).moved hg0
  go_loopg [9] l.length (fun k s wr => ∃ (i : Nat) (out : Rt), s = .int .i64 i ∧ Hid (Gr w wr 23 g mulF (1, 1) l i out) ∧ l.length - i ≤ k)
  case atStart =>
    exact ⟨0, (1, 1), rfl, Lib.hid ⟨(below_grow (below_box _ _) m0).alloc (by omega) _, ((Blk.new _ _ _).grow m0).old _, h1, hfar, ⟨by decide, by decide, by decide, by decide⟩, Nat.zero_le _, fun h => by omega, fun _ => rfl⟩, by omega⟩
  case round =>
    obtain ⟨i, out, rfl, hg, hk⟩ := hrel
    have hle := hg.out.le
    clear h1 hg0
    by_cases hi : i < l.length
    · have hr : l[i]? = some l[i] := List.getElem?_eq_getElem hi
      have hoa := H.out.at_ (by omega)
      have hbl := H.out.lt (by omega)
      have e0 := H.out.c0 i _ hr
      have e1 := H.out.c1 i _ hr
      have h64 := H.out.is64 i _ hr
      have hdrop : l.drop i = l[i] :: l.drop (i + 1) := List.drop_eq_getElem_cons hi
      have hlaw := hg.out.law
      have hz := hg.out.zero
      rw [hdrop] at hlaw
      have hfirst : i = 0 → refR mulF (1, 1) l = refG mulF (cleanR l[i]) (l.drop (i + 1)) := fun h0 => by
        subst h0
        rw [List.drop_zero] at hdrop
        conv => lhs; rw [hdrop]
        rfl
      clear hdrop hr
      generalize l[i] = x at *
      obtain ⟨n, d⟩ := x
      subst hoa
      have f0 : wr.cell? ⟨b, o + i * 2, none⟩ = some (.int .i64 n) := (hg.out.below.cell hbl).trans e0
      have f1 : wr.cell? ⟨b, o + i * 2 + 1, none⟩ = some (.int .i64 d) := (hg.out.below.cell hbl).trans e1
      clear e0 e1 hbl
      go_upto_region 5 with fail
      have o64 := hg.out.i64
      have hc := fun w => clean_any (n, d) w h64
      have hm := fun w => mul2_any out (n, d) w o64 h64
      have hc6 := is64_cleanR h64
      have hm6 := is64_op2 is64_mulF out (n, d)
      have hx := Blk.new wr 23 #[.int .i64 n, .int .i64 d]
      replace hg := hg.out.alloc (.cells #[.int .i64 n, .int .i64 d] 23)
      clear f0 f1
      generalize wr.heap.size = gx at *
      generalize wr.alloc _ = wa at *
      obtain ⟨p, q⟩ := out
      have cx0 : wa.cell? ⟨gx, 0, none⟩ = some (.int .i64 n) := (hx).cell 0
      have fcx0 := (hx).frozen 0
      have cx1 : wa.cell? ⟨gx, 1, none⟩ = some (.int .i64 d) := (hx).cell 1
      have fcx1 := (hx).frozen 1
      have lcx := (hx).lt
      have co0 : wa.cell? ⟨g, 0, none⟩ = some (.int .i64 p) := (hg.best).cell 0
      have fco0 := (hg.best).frozen 0
      have co1 : wa.cell? ⟨g, 1, none⟩ = some (.int .i64 q) := (hg.best).cell 1
      have fco1 := (hg.best).frozen 1
      have lco := (hg.best).lt
      by_cases hi0 : i = 0
      · have hf := hfirst hi0
        clear hfirst hlaw hm hm6
        generalize cleanR (n, d) = v at *
        obtain ⟨v1, v2⟩ := v
        have HC := Lib.hid hc
        have HF := Lib.hid hf.symm
        clear hc hf
        subst hi0
        go_wp2_with fail
        ((with_reducible refine (HC.out _).mono ?_); rintro e w' ⟨rfl, hbw⟩)
        obtain ⟨m1, rfl⟩ := grow_mk hbw
        clear hbw
        go_wp2_with fail
        go_roundg (l.length - 1)
        case measure => omega
        case rel => exact ⟨1, (v1, v2), rfl, Lib.hid ((hg.grow m1).set hc6 hi HF.out), by omega⟩
      · have g1 : ((i : Int) == 0) = false := by simpa using hi0
        have hf := hlaw (by omega)
        rw [show refG mulF (p, q) ((n, d) :: l.drop (i + 1)) = refG mulF (op2 mulF (p, q) (n, d)) (l.drop (i + 1)) from rfl] at hf
        clear hfirst hlaw hc hc6
        generalize op2 mulF (p, q) (n, d) = v at *
        obtain ⟨v1, v2⟩ := v
        have HM := Lib.hid hm
        have HF := Lib.hid hf
        clear hm hf
        go_wp2_with fail
        ((with_reducible refine (HM.out _).mono ?_); rintro e w' ⟨rfl, hbw⟩)
        obtain ⟨m1, rfl⟩ := grow_mk hbw
        clear hbw
        go_wp2_with fail
        go_roundg (l.length - (i + 1))
        case measure => omega
        case rel => exact ⟨i + 1, (v1, v2), by go_num, Lib.hid ((hg.grow m1).set hm6 hi HF.out), by omega⟩
    · obtain rfl : i = l.length := by omega
      obtain ⟨p, q⟩ := out
      have hl : (p, q) = refR mulF (1, 1) l := by
        rcases Nat.eq_zero_or_pos l.length with h0 | h0
        · rw [hg.out.zero h0, List.eq_nil_of_length_eq_zero h0]; rfl
        · rw [← hg.out.law h0, List.drop_length]; rfl
      have HL := Lib.hid hl
      have co0 : wr.cell? ⟨g, 0, none⟩ = some (.int .i64 p) := (hg.out.best).cell 0
      have fco0 := (hg.out.best).frozen 0
      have co1 : wr.cell? ⟨g, 1, none⟩ = some (.int .i64 q) := (hg.out.best).cell 1
      have fco1 := (hg.out.best).frozen 1
      have lco := (hg.out.best).lt
      have cr0 : wr.cell? ⟨w.heap.size, 0, none⟩ = some (.int .i64 0) := (hg.out.res).cell 0
      have fcr0 := (hg.out.res).frozen 0
      have cr1 : wr.cell? ⟨w.heap.size, 1, none⟩ = some (.int .i64 0) := (hg.out.res).cell 1
      have fcr1 := (hg.out.res).frozen 1
      have lcr := (hg.out.res).lt
      go_wp2_with fail
      exact bodyPost_ret (v := .agg #[.int .i64 p, .int .i64 q]) (by simp [results, Try.results31, go_sem, cr0, cr1, lcr]) rfl ⟨(by rw [← HL.out]), ((hg.out.below.setCell (Nat.le_refl _) _).setCell (Nat.le_refl _) _)⟩

end Go.Proofs.Ytgjhaanpkfheeaa
