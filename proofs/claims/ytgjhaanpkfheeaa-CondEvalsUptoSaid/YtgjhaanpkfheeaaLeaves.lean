/- A condition's leaves, from the left: the reference's word. -/
import Derived.Test.YtgjhaanpkfheeaaREval
namespace Go.Proofs.Ytgjhaanpkfheeaa
set_option linter.unusedVariables false
set_option linter.unusedSimpArgs false
open Go.RowKit

theorem infoLeaf : (Try.prog.info? 47).map (fun i => (i.zero, i.size, i.bytes)) = some (some (.agg #[.int .i64 0, .int .i64 0, .string ⟨#[]⟩, .int .i64 0, .int .i64 0, .int .i64 0, .int .i64 0, .int .i64 0, .slice none 0 0, .string ⟨#[]⟩, .string ⟨#[]⟩, .bool false]), 12, 136) := by kernel_rfl

theorem lcells_length (l : Lf) : (lcells l).length = 12 := by
  obtain ⟨k, t, nm, op, ⟨k', n, d, u, oa, b, o, cap, kids⟩, wd, vl, an⟩ := l
  rfl
theorem lcells_one (l : Lf) : ∀ u ∈ lcells l, u.oneCell' = true := by
  obtain ⟨k, t, nm, op, ⟨k', n, d, u, oa, b, o, cap, kids⟩, wd, vl, an⟩ := l
  intro x hx
  simp only [lcells, xcells, List.cons_append, List.nil_append, List.mem_cons, List.not_mem_nil, or_false] at hx
  rcases hx with rfl | rfl | rfl | rfl | rfl | rfl | rfl | rfl | rfl | rfl | rfl | rfl <;> rfl
theorem rows_length (ls : List Lf) : (ls.flatMap lcells).length = ls.length * 12 := by
  induction ls with
  | nil => rfl
  | cons l ls ih => rw [List.flatMap_cons, List.length_append, ih, lcells_length, List.length_cons]; omega
theorem rows_one (ls : List Lf) : ∀ u ∈ ls.flatMap lcells, u.oneCell' = true := fun u hu => by
  obtain ⟨l, _, h⟩ := List.mem_flatMap.1 hu
  exact lcells_one l u h
theorem rows_at {ls : List Lf} {i : Nat} {l : Lf} (h : ls[i]? = some l) (j : Nat) (v : Value) (hj : (lcells l)[j]? = some v) : (ls.flatMap lcells)[i * 12 + j]? = some v := by
  induction ls generalizing i with
  | nil => simp at h
  | cons a ls ih =>
    have h12 := lcells_length a
    rw [List.flatMap_cons]
    cases i with
    | zero =>
      simp at h
      subst h
      have hlt : j < 12 := by have := (List.getElem?_eq_some_iff.1 hj).1; omega
      rw [Nat.zero_mul, Nat.zero_add, List.getElem?_append_left (by omega)]
      exact hj
    | succ i =>
      rw [List.getElem?_append_right (by omega), h12, show (i + 1) * 12 + j - 12 = i * 12 + j by omega]
      exact ih (by simpa using h)

theorem owns_base {w : World} {base base' : Nat} {e : TypeId} {size : Nat} {v : Value} {n : Nat} {xs : List Value} (h : w.ownsRow base e size v n xs) (hb : base' ≤ base) : w.ownsRow base' e size v n xs := by
  refine ⟨h.1, ?_⟩
  rcases h.2 with h0 | ⟨g, cap, cur, hv, hg, rest⟩
  · exact .inl h0
  · exact .inr ⟨g, cap, cur, hv, by omega, rest⟩

theorem leavesC_pos : ∀ (h f : Nat) (e : Cd) (w : World), CdIn w h e → mayC f e = true → 0 < (leavesC h e).length
  | 0, _, _, _, hx, _ => hx.elim
  | h + 1, f, .mk c oa b o cap kids lf, w, hx, hm => by
    by_cases hc : c = 4
    · subst hc
      rw [leavesC_leaf]; simp
    · rw [leavesC_more _ hc]
      obtain ⟨hc3, f', hk⟩ := mayC_parts hc hm
      obtain ⟨h1, h2, h4, h5, h6, h7, h8⟩ := hx
      cases kids with
      | nil =>
        cases f with
        | zero => cases hm
        | succ f =>
          rw [mayC_more f hc] at hm
          simp only [Bool.and_eq_true] at hm
          have ha := hm.1.2
          exfalso
          rcases hc3 with rfl | rfl | ⟨rfl, h3⟩
          · exact absurd ha (by decide)
          · exact absurd ha (by decide)
          · simp at h3
      | cons x l =>
        have := leavesC_pos h f' x w (h8 0 x rfl).2 (hk 0 x rfl)
        rw [List.flatMap_cons, List.length_append]
        omega

/-- where the loop over the kids stands -/
structure Glv (w wr : World) (tx : TypeId) (cs : Array Value) (v : Value) (ls : List Lf) : Prop where
  below : Below w.heap.size w wr
  box : Blk wr w.heap.size tx cs
  own : wr.ownsRow (w.heap.size + 1) 47 12 v ls.length (ls.flatMap lcells)

theorem take_flat {kids : List Cd} {i : Nat} {x : Cd} (f : Cd → List Lf) (h : kids[i]? = some x) : (kids.take (i + 1)).flatMap f = (kids.take i).flatMap f ++ f x := by
  rw [List.take_add_one, h, List.flatMap_append]
  simp
theorem take_flat_le (kids : List Cd) (i : Nat) (f : Cd → List Lf) : ((kids.take i).flatMap f).length ≤ (kids.flatMap f).length := by
  have : kids.flatMap f = (kids.take i).flatMap f ++ (kids.drop i).flatMap f := by rw [← List.flatMap_append, List.take_append_drop]
  rw [this, List.length_append]; omega

set_option maxRecDepth 20000 in
set_option maxHeartbeats 8000000 in
theorem leaves_any : ∀ (h f : Nat) (e : Cd) (w : World), CdIn w h e → mayC f e = true → (leavesC h e).length ≤ 1048576 →
    Calls Try.prog 103 #[cv e] w fun x w' => (∃ (g cap : Nat), x = .returned (.slice (some ⟨g, 0, none⟩) (leavesC h e).length cap) ∧ w'.ownsRow w.heap.size 47 12 (.slice (some ⟨g, 0, none⟩) (leavesC h e).length cap) (leavesC h e).length ((leavesC h e).flatMap lcells)) ∧ Below w.heap.size w w' := by
  intro h
  induction h with
  | zero => exact fun _ _ _ h => h.elim
  | succ h ih =>
    intro f e w hx hm hbk
    have hpos := leavesC_pos _ _ _ _ hx hm
    obtain ⟨c, oa, b, o, cap, kids, lf⟩ := e
    obtain ⟨h1, h2, h4, h5, h6, h7, h8⟩ := hx
    have hsm : kids.length ≤ 9223372036854775807 := Nat.le_trans (Nat.le_trans h4 h5) (by decide)
    have HIH := Lib.hid ih
    clear ih
    by_cases hk : c = 4
    · subst hk
      rw [leavesC_leaf]
      clear hm h7 h8 HIH h1 h2 hbk hpos
      obtain ⟨lk, lt, nm, op, ⟨k', n, d, u, oa', b', o', cap', kids'⟩, wd, vl, an⟩ := lf
      rw [cv_mk]
      go_enter Try.func103, Try.ntmps103
      go_wp2_with fail
      go_ret
      exact ⟨⟨_, _, rfl, by simp [lcells, xcells], .inr ⟨w.heap.size + 1, 1, #[.int .i64 lk, .int .i64 lt, .string nm, .int .i64 op, .int .i64 k', .int .i64 n, .int .i64 d, .int .i64 u, .slice oa' kids'.length cap', .string wd, .string vl, .bool an], rfl, by simp, Blk.new2 _ _ _ _, Nat.le_refl _, by decide, rfl, by simp [lcells, xcells]⟩⟩, (below_box _ _).alloc (by simp) _⟩
    · rw [leavesC_more _ hk] at hbk hpos ⊢
      obtain ⟨hc, f', hmk⟩ := mayC_parts hk hm
      have gk : (c == 4) = false := by simpa using hk
      obtain ⟨i0, hi0, hz0, hz1, hz2⟩ := info_parts infoLeaf
      have HBK := Lib.hid hbk
      have HPOS := Lib.hid hpos
      clear hm h1 h2 hc hbk hpos
      obtain ⟨lk, lt, nm, op, ⟨k', n, d, u, oa', b', o', cap', kids'⟩, wd, vl, an⟩ := lf
      rw [cv_mk]
      go_enter Try.func103, Try.ntmps103
      go_wp2_with fail
      go_loopg [3, 15] kids.length (fun kk s t wr => ∃ (i : Nat) (v : Value), v = s ∧ t = .int .i64 i ∧ Hid (Glv w wr 49 #[.int .i64 c, .slice oa kids.length cap, .int .i64 lk, .int .i64 lt, .string nm, .int .i64 op, .int .i64 k', .int .i64 n, .int .i64 d, .int .i64 u, .slice oa' kids'.length cap', .string wd, .string vl, .bool an] v ((kids.take i).flatMap (leavesC h))) ∧ i ≤ kids.length ∧ kids.length - i ≤ kk)
      case atStart => exact ⟨0, .slice none 0 0, rfl, rfl, Lib.hid ⟨below_box _ _, Blk.new _ _ _, World.ownsRow_nil _ _ _ _⟩, Nat.zero_le _, by omega⟩
      case round =>
        obtain ⟨i, v, rfl, rfl, hg, hle, hk2⟩ := hrel
        by_cases hi : i < kids.length
        · have gi : decide ((i : Int) < kids.length) = true := by simpa using hi
          have hr : kids[i]? = some kids[i] := List.getElem?_eq_getElem hi
          have hx := h8 i _ hr
          have hmx := hmk i _ hr
          have htf := take_flat (leavesC h) hr
          have hle2 := take_flat_le kids (i + 1) (leavesC h)
          rw [htf, List.length_append] at hle2
          obtain ⟨LS, hLS⟩ : ∃ LS, (kids.take i).flatMap (leavesC h) = LS := ⟨_, rfl⟩
          rw [hLS] at hg htf hle2
          clear hLS
          obtain ⟨rfl, hbl⟩ := h7 (by omega)
          generalize kids[i] = x at *
          have hpx := leavesC_pos _ _ _ _ hx.2 hmx
          have hbx : (leavesC h x).length ≤ 1048576 := by have := HBK.out; omega
          have hX := fun wx hb => HIH.out f' x wx (hx.2.below (w' := wx) _ hb) hmx hbx
          have hsum := HBK.out
          obtain ⟨LX, hLX⟩ : ∃ LX, leavesC h x = LX := ⟨_, rfl⟩
          rw [hLX] at hX htf hle2 hpx hbx
          obtain ⟨xc, xoa, xb, xo, xcap, xkids, ⟨xlk, xlt, xnm, xop, ⟨xk, xn, xd, xu, xoa', xb', xo', xcap', xkids'⟩, xwd, xvl, xan⟩⟩ := x
          simp only [cv_mk] at hX
          have HX := Lib.hid hX
          have HTF := Lib.hid htf
          clear hX hLX htf
          have hnm : LS.length + LX.length ≤ maxLen := by unfold maxLen; omega
          have hib : (LS.length + LX.length) * 136 ≤ 140737488355328 := by omega
          have f0 : wr.cell? ⟨b, o + i * 14, none⟩ = some (.int .i64 xc) := (hg.out.below.cell hbl).trans (hx.1 0 _ rfl)
          have f1 : wr.cell? ⟨b, o + i * 14 + 1, none⟩ = some (.slice xoa xkids.length xcap) := (hg.out.below.cell hbl).trans (hx.1 1 _ rfl)
          have f2 : wr.cell? ⟨b, o + i * 14 + 2, none⟩ = some (.int .i64 xlk) := (hg.out.below.cell hbl).trans (hx.1 2 _ rfl)
          have f3 : wr.cell? ⟨b, o + i * 14 + 3, none⟩ = some (.int .i64 xlt) := (hg.out.below.cell hbl).trans (hx.1 3 _ rfl)
          have f4 : wr.cell? ⟨b, o + i * 14 + 4, none⟩ = some (.string xnm) := (hg.out.below.cell hbl).trans (hx.1 4 _ rfl)
          have f5 : wr.cell? ⟨b, o + i * 14 + 5, none⟩ = some (.int .i64 xop) := (hg.out.below.cell hbl).trans (hx.1 5 _ rfl)
          have f6 : wr.cell? ⟨b, o + i * 14 + 6, none⟩ = some (.int .i64 xk) := (hg.out.below.cell hbl).trans (hx.1 6 _ rfl)
          have f7 : wr.cell? ⟨b, o + i * 14 + 7, none⟩ = some (.int .i64 xn) := (hg.out.below.cell hbl).trans (hx.1 7 _ rfl)
          have f8 : wr.cell? ⟨b, o + i * 14 + 8, none⟩ = some (.int .i64 xd) := (hg.out.below.cell hbl).trans (hx.1 8 _ rfl)
          have f9 : wr.cell? ⟨b, o + i * 14 + 9, none⟩ = some (.int .i64 xu) := (hg.out.below.cell hbl).trans (hx.1 9 _ rfl)
          have f10 : wr.cell? ⟨b, o + i * 14 + 10, none⟩ = some (.slice xoa' xkids'.length xcap') := (hg.out.below.cell hbl).trans (hx.1 10 _ rfl)
          have f11 : wr.cell? ⟨b, o + i * 14 + 11, none⟩ = some (.string xwd) := (hg.out.below.cell hbl).trans (hx.1 11 _ rfl)
          have f12 : wr.cell? ⟨b, o + i * 14 + 12, none⟩ = some (.string xvl) := (hg.out.below.cell hbl).trans (hx.1 12 _ rfl)
          have f13 : wr.cell? ⟨b, o + i * 14 + 13, none⟩ = some (.bool xan) := (hg.out.below.cell hbl).trans (hx.1 13 _ rfl)
          clear hx hr h8 h7 hmx hmk hsum hle2 hbx
          generalize xkids.length = xL at *
          generalize xkids'.length = xL' at *
          have hbv := hg.out.below.alloc hg.out.below.size (.cells #[.int .i64 xc, .slice xoa xL xcap, .int .i64 xlk, .int .i64 xlt, .string xnm, .int .i64 xop, .int .i64 xk, .int .i64 xn, .int .i64 xd, .int .i64 xu, .slice xoa' xL' xcap', .string xwd, .string xvl, .bool xan] 49)
          have hxv := hg.out.box.old (.cells #[.int .i64 xc, .slice xoa xL xcap, .int .i64 xlk, .int .i64 xlt, .string xnm, .int .i64 xop, .int .i64 xk, .int .i64 xn, .int .i64 xd, .int .i64 xu, .slice xoa' xL' xcap', .string xwd, .string xvl, .bool xan] 49)
          have hov := hg.out.own.alloc (.cells #[.int .i64 xc, .slice xoa xL xcap, .int .i64 xlk, .int .i64 xlt, .string xnm, .int .i64 xop, .int .i64 xk, .int .i64 xn, .int .i64 xd, .int .i64 xu, .slice xoa' xL' xcap', .string xwd, .string xvl, .bool xan] 49)
          have hvb := hg.out.own.lt
          have hne : v.ownBlock ≠ some w.heap.size := fun e => by have := (hvb _ e).1; omega
          have HVR := Lib.hid (show ∀ k, v.ownBlock = some k → w.heap.size ≤ k from fun k e => by have := (hvb _ e).1; omega)
          have hbs := hg.out.box.lt
          clear hvb hg
          go_wp2_with fail
          ((with_reducible refine (HX.out _ hbv).mono ?_); rintro e w' ⟨⟨gs, cs3, rfl, hso⟩, hbw⟩)
          obtain ⟨m, rfl⟩ := grow_mk hbw
          replace hbv := below_grow hbv m
          replace hxv := hxv.grow m
          replace hov := owns_below hov (grow_below m)
          clear hbw
          generalize grow _ m = wq at *
          have hsq := hxv.lt
          have HSC := Lib.hid (hso.cells (g := gs) rfl)
          clear f0 f1 f2 f3 f4 f5 f6 f7 f8 f9 f10 f11 f12 f13 hso
          go_wp2_with (at_builtin; refine wpList_append_lies _ rfl _ _ _ rfl (w.heap.size + 1) 47 i0 _ 12 136 Try.underlying93 hi0 hz0 hz1 hz2 rfl (by omega) v _ (LS.flatMap lcells) rfl hov ⟨gs, 0, none⟩ LX.length _ (LX.flatMap lcells) rfl (rows_length LX) HSC.out (rows_one LX) (by omega) hnm hib (by omega) (wq.heap.size) rfl ?_; intro gg capq w1 hown1 hgrow hat hlt; have HR1 := Lib.hid (And.intro (blk_grownBy hxv hgrow (Ne.symm hne)) (And.intro (below_grownBy hbv hgrow hbv.size HVR.out) hown1)); clear hown1 hgrow hat)
          go_roundg (kids.length - (i + 1))
          case measure => omega
          case rel =>
            obtain ⟨r1, r2, r3⟩ := HR1.out
            exact ⟨i + 1, _, rfl, by go_num, Lib.hid ⟨r2, r1, by rw [HTF.out, List.length_append, List.flatMap_append]; exact r3⟩, hi, by omega⟩
        · obtain rfl : i = kids.length := by omega
          have hown := hg.out.own
          rw [List.take_of_length_le (Nat.le_refl _)] at hown
          have hbel := Lib.hid hg.out.below
          obtain ⟨g2, cap2, rfl, _, _⟩ := hown.form HPOS.out
          have HO := Lib.hid hown
          clear hown hg HIH h8 h7 hmk
          go_wp2_with fail
          go_ret
          exact ⟨⟨_, _, rfl, owns_base HO.out (by omega)⟩, hbel.out⟩

end Go.Proofs.Ytgjhaanpkfheeaa
