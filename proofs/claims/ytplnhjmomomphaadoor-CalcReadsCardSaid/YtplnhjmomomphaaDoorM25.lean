/- Of my texts: CalcB, CalcC, SplitS. -/
import Derived.Test.YtplnhjmomomphaaDoorM23
import Derived.Test.YtplnhjmomomphaaDoorM24
namespace Go.Proofs.YtplnhjmomomphaaDoor
set_option linter.unusedVariables false
set_option linter.unusedSimpArgs false
open Go.RowKit

/-- the reader lies at R: its values, its place -/
structure Rd (A : Nat → Prop) (w : World) (R h : Nat) (oa : Option Addr) (cap b o : Nat) (l : List Vl) (i : Nat) : Prop where
  blk : Blk w R 87 #[.slice oa l.length cap, .int .i64 i]
  vs : Safe A w fun w => VsIn w h oa cap b o l
  pos : i ≤ l.length
  me : A R
/-- it has moved: nothing else has turned -/
structure Mv (w w' : World) (R : Nat) (oa : Option Addr) (L cap j : Nat) : Prop where
  gb : w.grownBy w' (some R)
  blk : Blk w' R 87 #[.slice oa L cap, .int .i64 j]
section
variable {A : Nat → Prop} {w w' w2 : World} {R h : Nat} {oa : Option Addr} {cap b o : Nat} {l : List Vl} {i j : Nat}
theorem Rd.mv (hr : Rd A w R h oa cap b o l i) (hm : Mv w w' R oa l.length cap j) (hj : j ≤ l.length) : Rd A w' R h oa cap b o l j := ⟨hm.blk, hr.vs.grown hm.gb (fun k e _ => by injection e with e; rw [← e]; exact hr.me), hj, hr.me⟩
theorem Rd.below (hr : Rd A w R h oa cap b o l i) (hb : Below w.heap.size w w') : Rd A w' R h oa cap b o l i := ⟨hr.blk.below hb hr.blk.lt, hr.vs.below hb, hr.pos, hr.me⟩
theorem Rd.grown {row : Option Nat} (hr : Rd A w R h oa cap b o l i) (hg : w.grownBy w' row) (hA : ∀ k, row = some k → A k ∨ w.heap.size ≤ k) (hR : row ≠ some R) : Rd A w' R h oa cap b o l i :=
  ⟨(hg.block R hr.blk.lt (Ne.symm hR)).trans hr.blk, hr.vs.grown hg (fun k e hk => (hA k e).resolve_right (by omega)), hr.pos, hr.me⟩
theorem Rd.only (hr : Rd A w R h oa cap b o l i) : Rd (· = R) w R h oa cap b o l i := ⟨hr.blk, hr.vs.anti fun b hb _ => by rw [hb]; exact hr.me, hr.pos, rfl⟩
theorem Rd.set (hr : Rd A w R h oa cap b o l i) {j : Nat} (hj : j ≤ l.length) : Rd A (w.setCell ⟨R, 1, none⟩ (.int .i64 j)) R h oa cap b o l j := ⟨hr.blk.put 1 _, hr.vs.set hr.me _, hj, hr.me⟩
theorem Mv.refl (hr : Rd A w R h oa cap b o l i) : Mv w w R oa l.length cap i := ⟨grownBy_refl _ _, hr.blk⟩
theorem Mv.trans {L : Nat} (h1 : Mv w w' R oa L cap i) (h2 : Mv w' w2 R oa L cap j) : Mv w w2 R oa L cap j := ⟨grownBy_trans h1.gb h2.gb, h2.blk⟩
theorem Mv.set {L : Nat} (h1 : Mv w w' R oa L cap i) (j : Nat) : Mv w (w'.setCell ⟨R, 1, none⟩ (.int .i64 j)) R oa L cap j := ⟨grownBy_trans h1.gb (grownBy_set w' ⟨R, 1, none⟩ _), h1.blk.put 1 _⟩
theorem Mv.below {L : Nat} (h1 : Mv w w' R oa L cap i) (hb : Below w'.heap.size w' w2) : Mv w w2 R oa L cap i := ⟨grownBy_trans h1.gb (grownBy_of_below hb _), h1.blk.below hb h1.blk.lt⟩
theorem Mv.keeps {g : Nat} {t : TypeId} {cs : Array Value} {L : Nat} (h1 : Mv w w' R oa L cap i) (hb : Blk w g t cs) (hg : g ≠ R) : Blk w' g t cs := (h1.gb.block g hb.lt (by simpa using hg)).trans hb
end

theorem blank_step {m : List Vt} {i : Nat} {v : Vt} (h : m[i]? = some v) (hs : spV v = true) : blankP m i = blankP m (i + 1) := by
  obtain ⟨hl, he⟩ := List.getElem?_eq_some_iff.1 h
  unfold blankP
  rw [List.drop_eq_getElem_cons hl, he, List.takeWhile_cons_of_pos hs, List.length_cons]
  omega
theorem blank_here {m : List Vt} {i : Nat} {v : Vt} (h : m[i]? = some v) (hs : spV v = false) : blankP m i = i := by
  obtain ⟨hl, he⟩ := List.getElem?_eq_some_iff.1 h
  unfold blankP
  rw [List.drop_eq_getElem_cons hl, he, List.takeWhile_cons_of_neg (by simp [hs])]
  rfl
theorem blank_past {m : List Vt} {i : Nat} (h : m.length ≤ i) : blankP m i = i := by
  unfold blankP
  rw [List.drop_eq_nil_of_le h]
  rfl

set_option maxRecDepth 20000 in
set_option maxHeartbeats 4000000 in
theorem cblanks_any (R g4 h : Nat) (oa : Option Addr) (cap b o : Nat) (l : List Vl) (i : Nat) (w : World) (hr : Rd (· = R) w R h oa cap b o l i) (h4 : Blk w g4 85 #[.pointer (some ⟨R, 0, none⟩)]) (hne : g4 ≠ R) :
    Calls Tryd.prog 97 #[.pointer (some ⟨g4, 0, none⟩)] w fun e w' => e = .returned (.bool (decide (i < blankP (l.map Vl.c) i))) ∧ Mv w w' R oa l.length cap (blankP (l.map Vl.c) i) := by
  obtain ⟨XL, hXL⟩ : ∃ XL, l.map Vl.c = XL := ⟨_, rfl⟩
  obtain ⟨N, hN⟩ : ∃ N, l.length = N := ⟨_, rfl⟩
  have hNX : XL.length = N := by rw [← hXL, List.length_map, hN]
  rw [hXL, hN]
  have hsm := hr.vs.here.small
  have hcl := hr.vs.here.sl.le
  have hcm := hr.vs.here.sl.max
  have hiN := hr.pos
  unfold maxLen at hcm
  rw [hN] at hsm hcl hiN
  have HN := Lib.hid (And.intro hN (And.intro hXL hNX))
  have HR := Lib.hid hr
  have H4 := Lib.hid h4
  have k0 := hr.blk.cell 0
  have k1 := hr.blk.cell 1
  have kl := hr.blk.lt
  have m0 := h4.cell 0
  have ml := h4.lt
  simp only [List.getElem?_toArray, List.getElem?_cons_zero, List.getElem?_cons_succ] at k0 k1 m0
  rw [hN] at k0
  clear hr h4 hN hXL hNX
  go_enter Tryd.func97, Tryd.ntmps97
  go_upto_block 0 with fail
  clear k0 k1 m0 kl ml
  go_cut [] (fun wx => Hid (Mv w wx R oa N cap (blankP XL i)) ∧ Hid (Blk wx g4 85 #[.pointer (some ⟨R, 0, none⟩)]))
  case first =>
    go_wp2_with fail
    go_loopg [] N (fun q wr => ∃ (j : Nat), Hid (Mv w wr R oa N cap j) ∧ Hid (Blk wr g4 85 #[.pointer (some ⟨R, 0, none⟩)]) ∧ i ≤ j ∧ j ≤ N ∧ Hid (blankP XL i = blankP XL j) ∧ N - j ≤ q)
    case atStart =>
      exact ⟨i, Lib.hid (by have := Mv.refl HR.out; rw [HN.out.1] at this; exact this), H4, Nat.le_refl _, hiN, Lib.hid rfl, by omega⟩
    case round =>
      obtain ⟨j, hm, hbx, hij, hjN, hbl, hq⟩ := hrel
      have hmm := hm.out
      rw [← HN.out.1] at hmm
      have hr2 := HR.out.mv hmm (by rw [HN.out.1]; exact hjN)
      have k0 := hr2.blk.cell 0
      have k1 := hr2.blk.cell 1
      have q1 := hr2.blk.frozen 1
      have kl := hr2.blk.lt
      have m0 := hbx.out.cell 0
      have ml := hbx.out.lt
      simp only [List.getElem?_toArray, List.getElem?_cons_zero, List.getElem?_cons_succ] at k0 k1 m0
      rw [HN.out.1] at k0
      have ij0 : (0 : Int) ≤ (j : Int) := Int.natCast_nonneg _
      by_cases hj : j < N
      · have gj : decide ((j : Int) < (N : Int)) = true := by simpa using hj
        have gjn : decide (j < N) = true := by simpa using hj
        have ijN : (j : Int) < (N : Int) := by omega
        have hil : j < l.length := by rw [HN.out.1]; exact hj
        have hli : l[j]? = some l[j] := List.getElem?_eq_getElem hil
        have hvs := hr2.vs.here
        obtain ⟨rfl, hbl2⟩ := hvs.sl.lies (by omega)
        obtain ⟨x, hx⟩ : ∃ x, l[j] = x := ⟨_, rfl⟩
        rw [hx] at hli
        have hxl : XL[j]? = some x.c := by rw [← HN.out.2.1, List.getElem?_map, hli]; rfl
        obtain ⟨t, koa, kb, ko, kcap, kids⟩ := x
        have f0 := hvs.cell hli (j := 0) rfl
        rw [Nat.add_zero] at f0
        obtain ⟨tk, tt, ⟨tn, td⟩, ti, tid⟩ := t
        rw [Vl.c_mk] at hxl
        have HXL := Lib.hid hxl
        clear hvs hli hil hx hxl hmm hr2
        by_cases hk : tk = 13
        · subst hk
          have hst := blank_step HXL.out rfl
          have HST := Lib.hid hst
          clear hst
          go_wp2_with fail
          refine wp_region_grow (by kernel_rfl) (by kernel_rfl) ?_
          repeat (go_big_quiet_step (fail))
          refine wpQuiet_nil ?_
          rintro _ ⟨m, rfl⟩
          have hm2 := Lib.hid (Mv.below hm.out (grow_below m))
          have hbx2 := Lib.hid (hbx.out.grow m)
          clear k0 k1 q1 kl m0 ml f0 hm hbx
          generalize grow _ m = wq at *
          have k0 := hm2.out.blk.cell 0
          have k1 := hm2.out.blk.cell 1
          have q1 := hm2.out.blk.frozen 1
          have kl := hm2.out.blk.lt
          have m0 := hbx2.out.cell 0
          have ml := hbx2.out.lt
          simp only [List.getElem?_toArray, List.getElem?_cons_zero, List.getElem?_cons_succ] at k0 k1 m0
          go_wp2_with fail
          go_roundg (N - (j + 1))
          case measure => omega
          case rel => exact ⟨j + 1, Lib.hid (by have := hm2.out.set (j + 1); simpa using this), Lib.hid (hbx2.out.far (p := ⟨R, 1, none⟩) hne _), by omega, hj, Lib.hid (by rw [hbl.out, HST.out]), Nat.le_refl _⟩
        · have gk : (tk == (13 : Int)) = false := by simpa using hk
          have hst : blankP XL j = j := blank_here HXL.out (by simpa [spV] using hk)
          have HST := Lib.hid hst
          clear hst hk
          go_wp2_with fail
          refine wp_region_grow (by kernel_rfl) (by kernel_rfl) ?_
          repeat (go_big_quiet_step (fail))
          refine wpQuiet_nil ?_
          rintro _ ⟨m, rfl⟩
          have hm2 := Lib.hid (Mv.below hm.out (grow_below m))
          have hbx2 := Lib.hid (hbx.out.grow m)
          clear k0 k1 q1 kl m0 ml f0 hm hbx
          generalize grow _ m = wq at *
          go_wp2_with fail
          go_meet
          case rel => exact ⟨Lib.hid (by rw [hbl.out, HST.out]; exact hm2.out), hbx2⟩
      · have gj : decide ((j : Int) < (N : Int)) = false := by simpa using hj
        have gjn : decide (j < N) = false := by simpa using hj
        have hst : blankP XL j = j := blank_past (by rw [HN.out.2.2]; omega)
        have HST := Lib.hid hst
        clear hst hmm hr2
        go_wp2_with fail
        refine wp_region_grow (by kernel_rfl) (by kernel_rfl) ?_
        repeat (go_big_quiet_step (fail))
        refine wpQuiet_nil ?_
        rintro _ ⟨m, rfl⟩
        have hm2 := Lib.hid (Mv.below hm.out (grow_below m))
        have hbx2 := Lib.hid (hbx.out.grow m)
        clear k0 k1 q1 kl m0 ml hm hbx
        generalize grow _ m = wq at *
        go_wp2_with fail
        go_meet
        case rel => exact ⟨Lib.hid (by rw [hbl.out, HST.out]; exact hm2.out), hbx2⟩
  case rest =>
    obtain ⟨hm, hbx⟩ := hcut
    obtain ⟨J, hJ⟩ : ∃ J, blankP XL i = J := ⟨_, rfl⟩
    rw [hJ] at hm
    have k0 := hm.out.blk.cell 0
    have k1 := hm.out.blk.cell 1
    have kl := hm.out.blk.lt
    have m0 := hbx.out.cell 0
    have ml := hbx.out.lt
    simp only [List.getElem?_toArray, List.getElem?_cons_zero, List.getElem?_cons_succ] at k0 k1 m0
    go_wp2_with fail
    go_ret
    exact ⟨by rw [hJ]; simp, by rw [hJ]; exact hm.out⟩

set_option maxRecDepth 20000 in
set_option maxHeartbeats 8000000 in
theorem csign_any (R h : Nat) (oa : Option Addr) (cap b o : Nat) (l : List Vl) (i : Nat) (s1 s2 : List UInt8) (apart : Bool) (w : World) (hr : Rd (· = R) w R h oa cap b o l i) :
    Calls Tryd.prog 84 #[.pointer (some ⟨R, 0, none⟩), .string ⟨s1.toArray⟩, .string ⟨s2.toArray⟩, .bool apart] w fun e w' => e = .returned (.string ⟨(signP (l.map Vl.c) s1 s2 apart i).1.toArray⟩) ∧ Mv w w' R oa l.length cap (signP (l.map Vl.c) s1 s2 apart i).2 := by
  obtain ⟨XL, hXL⟩ : ∃ XL, l.map Vl.c = XL := ⟨_, rfl⟩
  obtain ⟨N, hN⟩ : ∃ N, l.length = N := ⟨_, rfl⟩
  have hNX : XL.length = N := by rw [← hXL, List.length_map, hN]
  have hsm := hr.vs.here.small
  have hcl := hr.vs.here.sl.le
  have hcm := hr.vs.here.sl.max
  have hiN := hr.pos
  unfold maxLen at hcm
  rw [hN] at hsm hcl hiN
  obtain ⟨j, hj⟩ : ∃ j, blankP XL i = j := ⟨_, rfl⟩
  have hij := blank_le XL i
  have hjN := blank_len XL (i := i) (by rw [hNX]; exact hiN)
  rw [hj] at hij hjN
  rw [hNX] at hjN
  obtain ⟨SS, hSS⟩ : ∃ SS, signP XL s1 s2 apart i = SS := ⟨_, rfl⟩
  have hS1 := hSS
  unfold signP at hS1
  rw [hj] at hS1
  rw [hXL, hN, hSS]
  have HN := Lib.hid (And.intro hN (And.intro hXL hNX))
  have hRlt := hr.blk.lt
  -- the box of the reader
  have hb0 := below_box w (.cells #[.pointer (some ⟨R, 0, none⟩)] 85)
  have h4 := Blk.new w 85 #[.pointer (some ⟨R, 0, none⟩)]
  have HR := Lib.hid hr
  have HR1 := Lib.hid (hr.below hb0)
  have HB0 := Lib.hid hb0
  have H4 := Lib.hid h4
  have HJ := Lib.hid hj
  clear hr hb0 h4 hN hXL hNX hj hSS
  go_enter Tryd.func84, Tryd.ntmps84
  go_upto_region 1 with fail
  obtain ⟨g4, hg4⟩ : ∃ g4, w.heap.size = g4 := ⟨_, rfl⟩
  have HG := Lib.hid hg4
  rw [hg4] at H4 hRlt
  simp only [hg4]
  clear hg4
  generalize w.alloc _ = w1 at *
  have k0 := HR1.out.blk.cell 0
  have k1 := HR1.out.blk.cell 1
  have kl := HR1.out.blk.lt
  have m0 := H4.out.cell 0
  have ml := H4.out.lt
  simp only [List.getElem?_toArray, List.getElem?_cons_zero, List.getElem?_cons_succ] at k0 k1 m0
  rw [HN.out.1] at k0
  have hne : g4 ≠ R := by omega
  have hbl := cblanks_any R g4 h oa cap b o l i w1 HR1.out H4.out hne
  rw [HN.out.1, HN.out.2.1, HJ.out] at hbl
  have HBL := Lib.hid hbl
  clear hbl
  go_upto_region 3 with fail
  go_wp2_with fail
  ((with_reducible refine (HBL.out).mono ?_); rintro e w' ⟨rfl, hmv⟩)
  have hmv' := hmv
  rw [← HN.out.1] at hmv'
  have HR2 := Lib.hid (HR1.out.mv hmv' (by rw [HN.out.1]; exact hjN))
  have H42 := Lib.hid (hmv.keeps H4.out hne)
  have HM := Lib.hid hmv
  clear hmv hmv' k0 k1 kl m0 ml HBL H4
  have k0 := HM.out.blk.cell 0
  have k1 := HM.out.blk.cell 1
  have q1 := HM.out.blk.frozen 1
  have kl := HM.out.blk.lt
  have m0 := H42.out.cell 0
  have ml := H42.out.lt
  simp only [List.getElem?_toArray, List.getElem?_cons_zero, List.getElem?_cons_succ] at k0 k1 m0
  have ij0 : (0 : Int) ≤ (j : Int) := Int.natCast_nonneg _
  by_cases hj : j < N
  · have gj : decide ((j : Int) < (N : Int)) = true := by simpa using hj
    have gjn : decide (j < N) = true := by simpa using hj
    have ijN : (j : Int) < (N : Int) := by omega
    have hil : j < l.length := by rw [HN.out.1]; exact hj
    have hli : l[j]? = some l[j] := List.getElem?_eq_getElem hil
    have hvs := HR2.out.vs.here
    obtain ⟨rfl, hbl2⟩ := hvs.sl.lies (by omega)
    obtain ⟨x, hx⟩ : ∃ x, l[j] = x := ⟨_, rfl⟩
    rw [hx] at hli
    have hxl : XL[j]? = some x.c := by rw [← HN.out.2.1, List.getElem?_map, hli]; rfl
    obtain ⟨t, koa, kb, ko, kcap, kids⟩ := x
    have f0 := hvs.cell hli (j := 0) rfl
    have f1 := hvs.cell hli (j := 1) rfl
    rw [Nat.add_zero] at f0
    obtain ⟨tk, tt, ⟨tn, td⟩, ti, tid⟩ := t
    rw [Vl.c_mk] at hxl
    rw [hxl] at hS1
    simp only at hS1
    clear hvs hli hil hx hxl
    by_cases hk : tk = 9
    · subst hk
      obtain ⟨k, hk2⟩ : ∃ k, blankP XL (j + 1) = k := ⟨_, rfl⟩
      have hjk := blank_le XL (j + 1)
      have hkN := blank_len XL (i := j + 1) (by rw [HN.out.2.2]; omega)
      rw [hk2] at hjk hkN hS1
      rw [HN.out.2.2] at hkN
      have HK2 := Lib.hid hk2
      have HS1 := Lib.hid hS1
      clear hk2 hS1
      go_wp2_with fail
      refine wp_region_grow (by kernel_rfl) (by kernel_rfl) ?_
      repeat (go_big_quiet_step (fail))
      refine wpQuiet_nil ?_
      rintro _ ⟨m, rfl⟩
      have hm2 := Lib.hid (Mv.below HM.out (grow_below m))
      have hb2 := Lib.hid (H42.out.grow m)
      have hr2 := Lib.hid (HR2.out.below (grow_below m))
      have hf1 := Lib.hid (((grow_below m).cell (p := ⟨b, o + j * 7 + 1, none⟩) hbl2).trans f1)
      have hf2 := Lib.hid (Nat.lt_of_lt_of_le hbl2 (grow_size m))
      clear k0 k1 q1 kl m0 ml HM H42 f0 f1 HR2 hbl2
      generalize grow _ m = wq at *
      have k0 := hm2.out.blk.cell 0
      have k1 := hm2.out.blk.cell 1
      have q1 := hm2.out.blk.frozen 1
      have kl := hm2.out.blk.lt
      have m0 := hb2.out.cell 0
      have ml := hb2.out.lt
      simp only [List.getElem?_toArray, List.getElem?_cons_zero, List.getElem?_cons_succ] at k0 k1 m0
      have f1 := hf1.out
      have hbl2 := hf2.out
      go_wp2_with fail
      refine wp_region_grow (by kernel_rfl) (by kernel_rfl) ?_
      repeat (go_big_quiet_step (fail))
      refine wpQuiet_nil ?_
      rintro _ ⟨m2, rfl⟩
      have hm3 := Lib.hid (Mv.below hm2.out (grow_below m2))
      have hb3 := Lib.hid (hb2.out.grow m2)
      have hr3 := Lib.hid (hr2.out.below (grow_below m2))
      clear k0 k1 q1 kl m0 ml hm2 hb2 hf1 hf2 f1 hbl2 hr2
      generalize grow _ m2 = wq2 at *
      have k0 := hm3.out.blk.cell 0
      have k1 := hm3.out.blk.cell 1
      have q1 := hm3.out.blk.frozen 1
      have kl := hm3.out.blk.lt
      have m0 := hb3.out.cell 0
      have ml := hb3.out.lt
      simp only [List.getElem?_toArray, List.getElem?_cons_zero, List.getElem?_cons_succ] at k0 k1 m0
      go_upto_region 7 with fail
      have hm4 := Lib.hid (show Mv w1 (wq2.setCell ⟨R, 1, none⟩ (.int .i64 ((j + 1 : Nat) : Int))) R (some ⟨b, o, none⟩) N cap (j + 1) from hm3.out.set (j + 1))
      have hb4 := Lib.hid (show Blk (wq2.setCell ⟨R, 1, none⟩ (.int .i64 ((j + 1 : Nat) : Int))) g4 85 #[.pointer (some ⟨R, 0, none⟩)] from hb3.out.far (p := ⟨R, 1, none⟩) hne _)
      have hr4 := Lib.hid (show Rd (· = R) (wq2.setCell ⟨R, 1, none⟩ (.int .i64 ((j + 1 : Nat) : Int))) R h (some ⟨b, o, none⟩) cap b o l (j + 1) from hr3.out.set (by rw [HN.out.1]; omega))
      rw [show ((j + 1 : Nat) : Int) = (j : Int) + 1 by omega] at hm4 hb4 hr4
      clear k0 k1 q1 kl m0 ml hm3 hb3 hr3
      generalize wq2.setCell _ _ = wq3 at *
      have hbl := cblanks_any R g4 h _ cap b o l (j + 1) wq3 hr4.out hb4.out hne
      rw [HN.out.1, HN.out.2.1, HK2.out] at hbl
      have HBL := Lib.hid hbl
      clear hbl
      go_wp2_with fail
      ((with_reducible refine (HBL.out).mono ?_); rintro e w' ⟨rfl, hmv⟩)
      have hm5 := Lib.hid (hm4.out.trans hmv)
      have hb5 := Lib.hid (hmv.keeps hb4.out hne)
      clear hmv hm4 hb4 hr4 HBL
      have k0 := hm5.out.blk.cell 0
      have k1 := hm5.out.blk.cell 1
      have q1 := hm5.out.blk.frozen 1
      have kl := hm5.out.blk.lt
      have m0 := hb5.out.cell 0
      have ml := hb5.out.lt
      simp only [List.getElem?_toArray, List.getElem?_cons_zero, List.getElem?_cons_succ] at k0 k1 m0
      have hSf : (9 : Int) = 9 := rfl
      by_cases hT : (tt = s1 ∨ tt = s2) ∧ (apart = false ∨ (i < j ∧ j + 1 < k))
      · have HS := Lib.hid (show SS = (tt, k) by rw [← HS1.out, if_pos ⟨trivial, hT⟩])
        have ways : ((tt == s1) = true ∨ (tt == s1) = false ∧ (tt == s2) = true) ∧ (apart = false ∨ apart = true ∧ decide (i < j) = true ∧ decide (j + 1 < k) = true) := by
          refine ⟨?_, ?_⟩
          · by_cases h1 : tt = s1
            · exact Or.inl (by simp [h1])
            · exact Or.inr ⟨by simp [h1], by rcases hT.1 with h | h; · exact absurd h h1
                                             · simp [h]⟩
          · rcases hT.2 with h | ⟨h1, h2⟩
            · exact Or.inl h
            · cases apart
              · exact Or.inl rfl
              · exact Or.inr ⟨rfl, by simpa using h1, by simpa using h2⟩
        clear hT HS1
        obtain ⟨wa, wb⟩ := ways
        rcases wa with a1 | ⟨a1, a2⟩ <;> rcases wb with rfl | ⟨rfl, b1, b2⟩
        all_goals
          go_wp2_with fail
          go_ret
          refine ⟨by rw [HS.out]; rfl, ?_⟩
          rw [HS.out]
          exact ⟨grownBy_trans (grownBy_of_below HB0.out _) hm5.out.gb, hm5.out.blk⟩
      · have HS := Lib.hid (show SS = ([], i) by rw [← HS1.out, if_neg (fun e => hT e.2)])
        have ways : ((tt == s1) = false ∧ (tt == s2) = false) ∨ (((tt == s1) = true ∨ (tt == s1) = false ∧ (tt == s2) = true) ∧ apart = true ∧ (decide (i < j) = false ∨ decide (i < j) = true ∧ decide (j + 1 < k) = false)) := by
          by_cases h1 : tt = s1 ∨ tt = s2
          · refine Or.inr ⟨?_, ?_⟩
            · by_cases h2 : tt = s1
              · exact Or.inl (by simp [h2])
              · exact Or.inr ⟨by simp [h2], by rcases h1 with h | h; · exact absurd h h2
                                               · simp [h]⟩
            · cases apart
              · exact absurd ⟨h1, Or.inl rfl⟩ hT
              · refine ⟨rfl, ?_⟩
                by_cases h3 : i < j
                · refine Or.inr ⟨by simpa using h3, ?_⟩
                  simp only [decide_eq_false_iff_not]
                  exact fun h4 => hT ⟨h1, Or.inr ⟨h3, h4⟩⟩
                · exact Or.inl (by simpa using h3)
          · exact Or.inl ⟨by simpa using fun e => h1 (Or.inl e), by simpa using fun e => h1 (Or.inr e)⟩
        clear hT HS1
        rcases ways with ⟨a1, a2⟩ | ⟨a1 | ⟨a1, a2⟩, rfl, b1 | ⟨b1, b2⟩⟩
        all_goals
          go_wp2_with fail
          go_ret
          refine ⟨by rw [HS.out]; rfl, ?_⟩
          rw [HS.out]
          exact ⟨grownBy_trans (grownBy_of_below HB0.out _) (grownBy_trans hm5.out.gb (grownBy_set _ ⟨R, 1, none⟩ _)), by have := hm5.out.blk.put 1 (.int .i64 i); simpa using this⟩
    · have gk : (tk == (9 : Int)) = false := by simpa using hk
      rw [if_neg (fun e => hk e.1)] at hS1
      have HS := Lib.hid hS1.symm
      clear hk hS1
      go_wp2_with fail
      refine wp_region_grow (by kernel_rfl) (by kernel_rfl) ?_
      repeat (go_big_quiet_step (fail))
      refine wpQuiet_nil ?_
      rintro _ ⟨m, rfl⟩
      have hm2 := Lib.hid (Mv.below HM.out (grow_below m))
      have hb2 := Lib.hid (H42.out.grow m)
      clear k0 k1 q1 kl m0 ml HM H42 f0 f1 hbl2
      generalize grow _ m = wq at *
      have k0 := hm2.out.blk.cell 0
      have k1 := hm2.out.blk.cell 1
      have q1 := hm2.out.blk.frozen 1
      have kl := hm2.out.blk.lt
      have m0 := hb2.out.cell 0
      have ml := hb2.out.lt
      simp only [List.getElem?_toArray, List.getElem?_cons_zero, List.getElem?_cons_succ] at k0 k1 m0
      go_wp2_with fail
      go_ret
      refine ⟨by rw [HS.out]; rfl, ?_⟩
      rw [HS.out]
      exact ⟨grownBy_trans (grownBy_of_below HB0.out _) (grownBy_trans hm2.out.gb (grownBy_set _ ⟨R, 1, none⟩ _)), by have := hm2.out.blk.put 1 (.int .i64 i); simpa using this⟩
  · have gj : decide ((j : Int) < (N : Int)) = false := by simpa using hj
    have gjn : decide (j < N) = false := by simpa using hj
    rw [List.getElem?_eq_none (by rw [HN.out.2.2]; omega)] at hS1
    have HS := Lib.hid hS1.symm
    clear hS1
    go_wp2_with fail
    refine wp_region_grow (by kernel_rfl) (by kernel_rfl) ?_
    repeat (go_big_quiet_step (fail))
    refine wpQuiet_nil ?_
    rintro _ ⟨m, rfl⟩
    have hm2 := Lib.hid (Mv.below HM.out (grow_below m))
    have hb2 := Lib.hid (H42.out.grow m)
    clear k0 k1 q1 kl m0 ml HM H42
    generalize grow _ m = wq at *
    have k0 := hm2.out.blk.cell 0
    have k1 := hm2.out.blk.cell 1
    have q1 := hm2.out.blk.frozen 1
    have kl := hm2.out.blk.lt
    have m0 := hb2.out.cell 0
    have ml := hb2.out.lt
    simp only [List.getElem?_toArray, List.getElem?_cons_zero, List.getElem?_cons_succ] at k0 k1 m0
    go_wp2_with fail
    go_ret
    refine ⟨by rw [HS.out]; rfl, ?_⟩
    rw [HS.out]
    exact ⟨grownBy_trans (grownBy_of_below HB0.out _) (grownBy_trans hm2.out.gb (grownBy_set _ ⟨R, 1, none⟩ _)), by have := hm2.out.blk.put 1 (.int .i64 i); simpa using this⟩

end Go.Proofs.YtplnhjmomomphaaDoor

namespace Go.Proofs.YtplnhjmomomphaaDoor
set_option linter.unusedVariables false
set_option linter.unusedSimpArgs false
open Go.RowKit

/-- all of some values, read as an expression -/
def WholeAt (h : Nat) : Prop := ∀ (l : List Vl) (oa : Option Addr) (cap b o : Nat) (w : World), VsIn w h oa cap b o l →
  Calls Tryd.prog 45 #[.slice oa l.length cap] w fun e w' => retE (· < w.heap.size) (wholeP (opF wholeP h) (l.map Vl.c)) e w' ∧ Below w.heap.size w w'
/-- one value, read as an expression -/
def ExprAt (h : Nat) : Prop := ∀ (v : Vl) (w : World), VlIn w h v →
  Calls Tryd.prog 25 #[vv v] w fun e w' => retE (· < w.heap.size) (exF wholeP h v.c) e w' ∧ Below w.heap.size w w'
/-- an operand of the reader -/
def OperAt (h : Nat) : Prop := ∀ (R : Nat) (oa : Option Addr) (cap b o : Nat) (l : List Vl) (i : Nat) (w : World), Rd (· = R) w R h oa cap b o l i →
  Calls Tryd.prog 96 #[.pointer (some ⟨R, 0, none⟩)] w fun e w' => retE (· < w.heap.size) (opAt (opF wholeP h) (l.map Vl.c) i) e w' ∧ ∃ j, Mv w w' R oa l.length cap j ∧ j ≤ l.length ∧ (i < l.length → j = i + 1)

theorem mv_far {w w0 w' : World} {R L cap j : Nat} {oa : Option Addr} (hb : Below w.heap.size w w0) (h : Mv w0 w' R oa L cap j) : Mv w w' R oa L cap j := ⟨grownBy_trans (grownBy_of_below hb _) h.gb, h.blk⟩

theorem Mv.far {w w' w2 : World} {R L cap i : Nat} {oa : Option Addr} {row : Option Nat} (h1 : Mv w w' R oa L cap i) (hg : w'.grownBy w2 row) (hr : ∀ k, row = some k → w.heap.size ≤ k) (hR : R < w.heap.size) : Mv w w2 R oa L cap i :=
  ⟨grownBy_far h1.gb hg hr, (hg.block R h1.blk.lt (fun e => by have := hr R e.symm; omega)).trans h1.blk⟩
theorem Blk.put7 {w : World} {g : Nat} {t : TypeId} {a0 a1 a2 a3 a4 a5 a6 : Value} (h : Blk w g t #[a0, a1, a2, a3, a4, a5, a6]) (x0 x1 x2 x3 x4 x5 x6 : Value) :
    Blk (((((((w.setCell ⟨g, 0, none⟩ x0).setCell ⟨g, 1, none⟩ x1).setCell ⟨g, 2, none⟩ x2).setCell ⟨g, 3, none⟩ x3).setCell ⟨g, 4, none⟩ x4).setCell ⟨g, 5, none⟩ x5).setCell ⟨g, 6, none⟩ x6) g t #[x0, x1, x2, x3, x4, x5, x6] := by
  have h1 := ((((((h.put 0 x0).put 1 x1).put 2 x2).put 3 x3).put 4 x4).put 5 x5).put 6 x6
  simpa using h1
theorem zeroX_ret (A : Nat → Prop) (w : World) : retE A none (.returned (.tuple #[.agg #[.int .i64 0, .int .i64 0, .int .i64 0, .int .i64 0, .slice none 0 0], .bool false])) w := ⟨_, _, rfl, rfl, ⟨0, 0, 0, 0, none, 0, 0, rfl⟩, fun E h => by cases h⟩

set_option maxRecDepth 20000 in
set_option maxHeartbeats 8000000 in
theorem oper_step (h : Nat) (hW : ∀ h', h = h' + 1 → WholeAt h') (hX : ExprAt h) : OperAt h := by
  intro R oa cap b o l i w hr
  obtain ⟨XL, hXL⟩ : ∃ XL, l.map Vl.c = XL := ⟨_, rfl⟩
  obtain ⟨N, hN⟩ : ∃ N, l.length = N := ⟨_, rfl⟩
  have hNX : XL.length = N := by rw [← hXL, List.length_map, hN]
  have hsm := hr.vs.here.small
  have hcl := hr.vs.here.sl.le
  have hcm := hr.vs.here.sl.max
  have hiN := hr.pos
  unfold maxLen at hcm
  rw [hN] at hsm hcl hiN
  rw [hXL, hN]
  obtain ⟨Y, hY⟩ : ∃ Y, opAt (opF wholeP h) XL i = Y := ⟨_, rfl⟩
  rw [hY]
  have HN := Lib.hid (And.intro hN (And.intro hXL hNX))
  have HWX := Lib.hid (And.intro hW hX)
  have HR := Lib.hid hr
  have HY := Lib.hid hY
  -- the result's variable
  have hb0 := below_box w (.cells #[.int .i64 0, .int .i64 0, .int .i64 0, .int .i64 0, .slice none 0 0] 27)
  have h2 := Blk.new w 27 #[.int .i64 0, .int .i64 0, .int .i64 0, .int .i64 0, .slice none 0 0]
  have HR1 := Lib.hid (hr.below hb0)
  have HB0 := Lib.hid hb0
  have H2 := Lib.hid h2
  have hRlt := hr.blk.lt
  clear hr hb0 h2 hN hXL hNX hW hX hY
  go_enter Tryd.func96, Tryd.ntmps96
  go_upto_region 1 with fail
  obtain ⟨g2, hg2⟩ : ∃ g2, w.heap.size = g2 := ⟨_, rfl⟩
  have HG := Lib.hid hg2
  rw [hg2] at H2 hRlt
  simp only [hg2]
  clear hg2
  generalize w.alloc _ = w1 at *
  have k0 := HR1.out.blk.cell 0
  have k1 := HR1.out.blk.cell 1
  have kl := HR1.out.blk.lt
  simp only [List.getElem?_toArray, List.getElem?_cons_zero, List.getElem?_cons_succ] at k0 k1
  rw [HN.out.1] at k0
  have hne : g2 ≠ R := by omega
  refine wp_region_grow (by kernel_rfl) (by kernel_rfl) ?_
  repeat (go_big_quiet_step (fail))
  refine wpQuiet_nil ?_
  rintro _ ⟨m, rfl⟩
  have hr2 := Lib.hid (HR1.out.below (grow_below m))
  have hb2 := Lib.hid (below_grow HB0.out m)
  have h22 := Lib.hid (H2.out.grow m)
  clear k0 k1 kl HR1 HB0 H2
  generalize grow _ m = w2 at *
  by_cases hi : i < N
  · have gi : decide ((N : Int) ≤ (i : Int)) = false := by simp; omega
    have gin : decide (N ≤ i) = false := by simp; omega
    have ij0 : (0 : Int) ≤ (i : Int) := Int.natCast_nonneg _
    have ijN : (i : Int) < (N : Int) := by omega
    have hil : i < l.length := by rw [HN.out.1]; exact hi
    have hli : l[i]? = some l[i] := List.getElem?_eq_getElem hil
    have hvs := hr2.out.vs.here
    obtain ⟨rfl, hbl2⟩ := hvs.sl.lies (by omega)
    obtain ⟨x, hx⟩ : ∃ x, l[i] = x := ⟨_, rfl⟩
    rw [hx] at hli
    have hxl : XL[i]? = some x.c := by rw [← HN.out.2.1, List.getElem?_map, hli]; rfl
    have hYx : opF wholeP h x.c = Y := by
      have := HY.out
      unfold opAt at this
      rw [hxl] at this
      exact this
    have hvx := hvs.each i x hli
    obtain ⟨h, rfl⟩ : ∃ h', h = h' + 1 := by
      cases h with
      | zero => exact hvx.elim
      | succ h => exact ⟨h, rfl⟩
    have HVX := Lib.hid (hr2.out.vs.mono fun _ hw => hw.each i x hli)
    have HXP := Lib.hid (fun wz (hz : VlIn wz (h + 1) x) => HWX.out.2 x wz hz)
    obtain ⟨t, koa, kb, ko, kcap, kids⟩ := x
    have HWP := Lib.hid (fun wz (hz : VsIn wz h koa kcap kb ko kids) => HWX.out.1 h rfl kids koa kcap kb ko wz hz)
    obtain ⟨K, hK⟩ : ∃ K, kids.length = K := ⟨_, rfl⟩
    have f0 := hvs.cell hli (j := 0) rfl
    have f1 := hvs.cell hli (j := 1) rfl
    have f2 := hvs.cell hli (j := 2) rfl
    have f3 := hvs.cell hli (j := 3) rfl
    have f4 := hvs.cell hli (j := 4) rfl
    have f5 := hvs.cell hli (j := 5) rfl
    have f6 := hvs.cell hli (j := 6) rfl
    rw [Nat.add_zero] at f0
    rw [hK] at f6
    obtain ⟨tk, tt, ⟨tn, td⟩, ti, tid⟩ := t
    have hYx2 := hYx
    rw [Vl.c_mk, opF] at hYx2
    have HYX := Lib.hid (And.intro hYx2 hK)
    clear hvs hli hil hx hxl hvx hYx hYx2 hK HWX HY
    have k0 := hr2.out.blk.cell 0
    have k1 := hr2.out.blk.cell 1
    have kl := hr2.out.blk.lt
    simp only [List.getElem?_toArray, List.getElem?_cons_zero, List.getElem?_cons_succ] at k0 k1
    rw [HN.out.1] at k0
    go_wp2_with fail
    refine wp_region_loose 11 [Loose.claim 1 17 (.pointer (some ⟨R, 0, none⟩)), Loose.claim 5 21 (.pointer (some ⟨R, 0, none⟩)), Loose.cells 10 4 53 #[.int .i64 0, .string ⟨#[]⟩, .int .i64 0, .int .i64 0, .bool false, .bool false, .slice none 0 0] w2.heap.size] (by kernel_rfl) rfl (by kernel_rfl) (by kernel_rfl) (by kernel_rfl) (by kernel_rfl) ?_
    simp only [headL, hushL, List.find?, Loose.claim_i, Loose.cells_i, Loose.rowL_i, Loose.claim_hush, Loose.cells_hush, Loose.rowL_hush, Nat.reduceBEq, Nat.reduceAdd]
    repeat (go_big_quiet_step (fail))
    refine wpQuiet_nil ⟨fun V m2 => ?_, fun V m2 => ?_⟩
    · simp only [obs_cons, obs_nil, List.getElem?_cons_zero, List.getElem?_cons_succ, fill_nil, fill_claim, fill_cells, fill_rowL, Loose.claim_i, Loose.cells_i, Loose.rowL_i, Act.put, List.setIfInBounds_toArray, List.set_cons_zero, List.set_cons_succ]
      refine ⟨fun _ => ?_, fun _ => ?_, fun _ => ?_, trivial⟩
      · go_wp2_with fail
        exact post_claim rfl (Below.refl _ _)
      · go_wp2_with fail
        exact post_claim rfl (Below.refl _ _)
      · go_wp2_with fail
        exact post_cells rfl (grow_size m2)
    · simp only [laws_nil, laws_claim, laws_cells, laws_rowL, dist_nil, dist_claim, dist_cells, dist_rowL, dist1_nil, dist1_claim, dist1_cells, dist1_rowL, dist1_cells_rowL, dist1_rowL_cells, List.drop_succ_cons, List.drop_zero, and_true, fill_nil, fill_claim, fill_cells, fill_rowL, Loose.claim_i, Loose.cells_i, Loose.rowL_i, Act.put, List.setIfInBounds_toArray, List.set_cons_zero, List.set_cons_succ]
      rintro ⟨g4, hv10, hg4, hbk⟩ _
      rw [hv10]
      clear hv10
      have hbw0 := grow_below m2
      have hR2 := hr2.out.blk.lt
      have hg22 := h22.out.lt
      generalize grow w2 m2 = w3 at *
      have cb0 : w3.cell? ⟨g4, 0, none⟩ = some (.int .i64 0) := (hbk).cell 0
      have fcb0 := (hbk).frozen 0
      have cb1 : w3.cell? ⟨g4, 1, none⟩ = some (.string ⟨#[]⟩) := (hbk).cell 1
      have fcb1 := (hbk).frozen 1
      have cb2 : w3.cell? ⟨g4, 2, none⟩ = some (.int .i64 0) := (hbk).cell 2
      have fcb2 := (hbk).frozen 2
      have cb3 : w3.cell? ⟨g4, 3, none⟩ = some (.int .i64 0) := (hbk).cell 3
      have fcb3 := (hbk).frozen 3
      have cb4 : w3.cell? ⟨g4, 4, none⟩ = some (.bool false) := (hbk).cell 4
      have fcb4 := (hbk).frozen 4
      have cb5 : w3.cell? ⟨g4, 5, none⟩ = some (.bool false) := (hbk).cell 5
      have fcb5 := (hbk).frozen 5
      have cb6 : w3.cell? ⟨g4, 6, none⟩ = some (.slice none 0 0) := (hbk).cell 6
      have fcb6 := (hbk).frozen 6
      have lcb := (hbk).lt
      go_upto_region 4 with fail
      have hbw := Lib.hid (show Below w2.heap.size w2 (((((((w3.setCell ⟨g4, 0, none⟩ (.int .i64 tk)).setCell ⟨g4, 1, none⟩ (.string ⟨tt.toArray⟩)).setCell ⟨g4, 2, none⟩ (.int .i64 tn)).setCell ⟨g4, 3, none⟩ (.int .i64 td)).setCell ⟨g4, 4, none⟩ (.bool ti)).setCell ⟨g4, 5, none⟩ (.bool tid)).setCell ⟨g4, 6, none⟩ (.slice koa K kcap)) from
        ((((((hbw0.setCell (p := ⟨g4, 0, none⟩) hg4 _).setCell (p := ⟨g4, 1, none⟩) hg4 _).setCell (p := ⟨g4, 2, none⟩) hg4 _).setCell (p := ⟨g4, 3, none⟩) hg4 _).setCell (p := ⟨g4, 4, none⟩) hg4 _).setCell (p := ⟨g4, 5, none⟩) hg4 _).setCell (p := ⟨g4, 6, none⟩) hg4 _)
      have hbx := Lib.hid (hbk.put7 (.int .i64 tk) (.string ⟨tt.toArray⟩) (.int .i64 tn) (.int .i64 td) (.bool ti) (.bool tid) (.slice koa K kcap))
      clear cb0 cb1 cb2 cb3 cb4 cb5 cb6 fcb0 fcb1 fcb2 fcb3 fcb4 fcb5 fcb6 lcb hbk hbw0 f0 f1 f2 f3 f4 f5 f6 k0 k1 kl
      generalize World.setCell _ _ _ = w4 at *
      have hr4 := Lib.hid (hr2.out.below hbw.out)
      have h24 := Lib.hid (h22.out.below hbw.out h22.out.lt)
      have hm4 := Lib.hid (mv_far hb2.out (by have := (Mv.refl hr2.out).below hbw.out; rw [HN.out.1] at this; exact this))
      have hv4 := Lib.hid (HVX.out.below hbw.out)
      have k0 := hr4.out.blk.cell 0
      have k1 := hr4.out.blk.cell 1
      have q1 := hr4.out.blk.frozen 1
      have kl := hr4.out.blk.lt
      simp only [List.getElem?_toArray, List.getElem?_cons_zero, List.getElem?_cons_succ] at k0 k1
      go_upto_region 5 with fail
      have hRw : R < w.heap.size := by have := HG.out; omega
      have hm5 := Lib.hid (show Mv w (w4.setCell ⟨R, 1, none⟩ (.int .i64 ((i + 1 : Nat) : Int))) R (some ⟨b, o, none⟩) N cap (i + 1) from hm4.out.set (i + 1))
      have h25 := Lib.hid (show Blk (w4.setCell ⟨R, 1, none⟩ (.int .i64 ((i + 1 : Nat) : Int))) g2 27 #[.int .i64 0, .int .i64 0, .int .i64 0, .int .i64 0, .slice none 0 0] from h24.out.far (p := ⟨R, 1, none⟩) hne _)
      have hb5 := Lib.hid (show Blk (w4.setCell ⟨R, 1, none⟩ (.int .i64 ((i + 1 : Nat) : Int))) g4 53 #[.int .i64 tk, .string ⟨tt.toArray⟩, .int .i64 tn, .int .i64 td, .bool ti, .bool tid, .slice koa K kcap] from hbx.out.far (p := ⟨R, 1, none⟩) (by simp; omega) _)
      have hv5 := Lib.hid (show Safe (· = R) (w4.setCell ⟨R, 1, none⟩ (.int .i64 ((i + 1 : Nat) : Int))) (fun w => VlIn w (h + 1) (.mk ⟨tk, tt, (tn, td), ti, tid⟩ koa kb ko kcap kids)) from hv4.out.set (p := ⟨R, 1, none⟩) rfl _)
      rw [show ((i + 1 : Nat) : Int) = (i : Int) + 1 by omega] at hm5 h25 hb5 hv5
      clear k0 k1 q1 kl hm4 h24 hbx hv4 hr4
      generalize World.setCell _ _ _ = w5 at *
      have cb0 : w5.cell? ⟨g4, 0, none⟩ = some (.int .i64 tk) := (hb5.out).cell 0
      have fcb0 := (hb5.out).frozen 0
      have cb1 : w5.cell? ⟨g4, 1, none⟩ = some (.string ⟨tt.toArray⟩) := (hb5.out).cell 1
      have fcb1 := (hb5.out).frozen 1
      have cb2 : w5.cell? ⟨g4, 2, none⟩ = some (.int .i64 tn) := (hb5.out).cell 2
      have fcb2 := (hb5.out).frozen 2
      have cb3 : w5.cell? ⟨g4, 3, none⟩ = some (.int .i64 td) := (hb5.out).cell 3
      have fcb3 := (hb5.out).frozen 3
      have cb4 : w5.cell? ⟨g4, 4, none⟩ = some (.bool ti) := (hb5.out).cell 4
      have fcb4 := (hb5.out).frozen 4
      have cb5 : w5.cell? ⟨g4, 5, none⟩ = some (.bool tid) := (hb5.out).cell 5
      have fcb5 := (hb5.out).frozen 5
      have cb6 : w5.cell? ⟨g4, 6, none⟩ = some (.slice koa K kcap) := (hb5.out).cell 6
      have fcb6 := (hb5.out).frozen 6
      have lcb := (hb5.out).lt
      have hlt2 := h25.out.lt
      have HFIN := Lib.hid (show ∀ (v : Value) (ok : Bool) (w6 w7 : World), ok = Y.isSome → isE5 v → (∀ E, Y = some E → isEx (· < w5.heap.size) E v w6) → Below w5.heap.size w5 w6 → w6.grownBy w7 (some g2) → retE (· < w.heap.size) Y (.returned (.tuple #[v, .bool ok])) w7 ∧ ∃ j, Mv w w7 R (some ⟨b, o, none⟩) N cap j ∧ j ≤ N ∧ (i < N → j = i + 1) from
        fun v ok w6 w7 h1 h2 h3 h4 h5 => ⟨⟨v, ok, rfl, h1, h2, fun E hE => ((h3 E hE).grown h5 (fun k e _ => by injection e with e; omega)).anti fun b hb => Or.inl (by have := hm5.out.gb.size; omega)⟩,
          i + 1, (hm5.out.below h4).far h5 (fun k e => by injection e with e; have := HG.out; omega) hRw, hi, fun _ => rfl⟩)
      by_cases hk : tk = 21
      · have hYk : wholeP (opF wholeP h) (kids.map Vl.c) = Y := by
          have := HYX.out.1
          rw [if_pos hk] at this
          exact this
        have hwc := HWP.out w5 hv5.out.here.kids
        rw [HYX.out.2, hYk] at hwc
        have HC := Lib.hid hwc
        subst hk
        clear hwc hYk
        go_wp2_with fail
        ((with_reducible refine HC.out.mono ?_); rintro e w6 ⟨⟨v, ok, rfl, hok, h5, hE⟩, hbb⟩)
        obtain ⟨vk, vn, vd, vu, voa, vL, vc, rfl⟩ := h5
        have h26 := h25.out.below hbb h25.out.lt
        have cc0 : w6.cell? ⟨g2, 0, none⟩ = some (.int .i64 0) := (h26).cell 0
        have fcc0 := (h26).frozen 0
        have cc1 : w6.cell? ⟨g2, 1, none⟩ = some (.int .i64 0) := (h26).cell 1
        have fcc1 := (h26).frozen 1
        have cc2 : w6.cell? ⟨g2, 2, none⟩ = some (.int .i64 0) := (h26).cell 2
        have fcc2 := (h26).frozen 2
        have cc3 : w6.cell? ⟨g2, 3, none⟩ = some (.int .i64 0) := (h26).cell 3
        have fcc3 := (h26).frozen 3
        have cc4 : w6.cell? ⟨g2, 4, none⟩ = some (.slice none 0 0) := (h26).cell 4
        have fcc4 := (h26).frozen 4
        have lcc := (h26).lt
        have HE := Lib.hid (And.intro hok (And.intro hE hbb))
        have H26 := Lib.hid h26
        clear h26 hok hE hbb cb0 cb1 cb2 cb3 cb4 cb5 cb6 fcb0 fcb1 fcb2 fcb3 fcb4 fcb5 fcb6 lcb
        go_wp2_with fail
        have hputs := (H26.out).put5 (.int .i64 vk) (.int .i64 vn) (.int .i64 vd) (.int .i64 vu) (.slice voa vL vc)
        refine bodyPost_ret (v := .tuple #[.agg #[.int .i64 vk, .int .i64 vn, .int .i64 vd, .int .i64 vu, .slice voa vL vc], .bool ok]) ?_ rfl ?_
        · refine ret_ex2 Tryd.results96 ?_ ?_ hputs rfl
          all_goals rfl
        · exact HFIN.out _ _ w6 _ HE.out.1 ⟨_, _, _, _, _, _, _, rfl⟩ HE.out.2.1 HE.out.2.2 (grownBy_puts [.int .i64 vk, .int .i64 vn, .int .i64 vd, .int .i64 vu, .slice voa vL vc] w6 g2 0)
      · have gk : (tk == (21 : Int)) = false := by simpa using hk
        have hYk : exF wholeP (h + 1) (Vl.mk ⟨tk, tt, (tn, td), ti, tid⟩ koa kb ko kcap kids).c = Y := by
          have := HYX.out.1
          rw [if_neg hk] at this
          rw [Vl.c_mk, exF]
          exact this
        have hwc := HXP.out w5 hv5.out.here
        rw [hYk] at hwc
        have hvv : vv (Vl.mk ⟨tk, tt, (tn, td), ti, tid⟩ koa kb ko kcap kids) = .agg #[.int .i64 tk, .string ⟨tt.toArray⟩, .int .i64 tn, .int .i64 td, .bool ti, .bool tid, .slice koa K kcap] := by rw [← HYX.out.2]; rfl
        rw [hvv] at hwc
        have HC := Lib.hid hwc
        clear hwc hYk hvv hk
        go_wp2_with fail
        ((with_reducible refine HC.out.mono ?_); rintro e w6 ⟨⟨v, ok, rfl, hok, h5, hE⟩, hbb⟩)
        obtain ⟨vk, vn, vd, vu, voa, vL, vc, rfl⟩ := h5
        have h26 := h25.out.below hbb h25.out.lt
        have cc0 : w6.cell? ⟨g2, 0, none⟩ = some (.int .i64 0) := (h26).cell 0
        have fcc0 := (h26).frozen 0
        have cc1 : w6.cell? ⟨g2, 1, none⟩ = some (.int .i64 0) := (h26).cell 1
        have fcc1 := (h26).frozen 1
        have cc2 : w6.cell? ⟨g2, 2, none⟩ = some (.int .i64 0) := (h26).cell 2
        have fcc2 := (h26).frozen 2
        have cc3 : w6.cell? ⟨g2, 3, none⟩ = some (.int .i64 0) := (h26).cell 3
        have fcc3 := (h26).frozen 3
        have cc4 : w6.cell? ⟨g2, 4, none⟩ = some (.slice none 0 0) := (h26).cell 4
        have fcc4 := (h26).frozen 4
        have lcc := (h26).lt
        have HE := Lib.hid (And.intro hok (And.intro hE hbb))
        have H26 := Lib.hid h26
        clear h26 hok hE hbb cb0 cb1 cb2 cb3 cb4 cb5 cb6 fcb0 fcb1 fcb2 fcb3 fcb4 fcb5 fcb6 lcb
        go_wp2_with fail
        have hputs := (H26.out).put5 (.int .i64 vk) (.int .i64 vn) (.int .i64 vd) (.int .i64 vu) (.slice voa vL vc)
        refine bodyPost_ret (v := .tuple #[.agg #[.int .i64 vk, .int .i64 vn, .int .i64 vd, .int .i64 vu, .slice voa vL vc], .bool ok]) ?_ rfl ?_
        · refine ret_ex2 Tryd.results96 ?_ ?_ hputs rfl
          all_goals rfl
        · exact HFIN.out _ _ w6 _ HE.out.1 ⟨_, _, _, _, _, _, _, rfl⟩ HE.out.2.1 HE.out.2.2 (grownBy_puts [.int .i64 vk, .int .i64 vn, .int .i64 vd, .int .i64 vu, .slice voa vL vc] w6 g2 0)
  · have gi : decide ((N : Int) ≤ (i : Int)) = true := by simp; omega
    have gin : decide (N ≤ i) = true := by simp; omega
    have hY0 : Y = none := by
      rw [← HY.out]
      unfold opAt
      rw [List.getElem?_eq_none (by rw [HN.out.2.2]; omega)]
    subst hY0
    have c0 := h22.out.cell 0
    have hmv := Lib.hid (mv_far hb2.out (by have := Mv.refl hr2.out; rw [HN.out.1] at this; exact this))
    have c0 := h22.out.cell 0
    have c1 := h22.out.cell 1
    have c2 := h22.out.cell 2
    have c3 := h22.out.cell 3
    have c4 := h22.out.cell 4
    have d0 := h22.out.frozen 0
    have d1 := h22.out.frozen 1
    have d2 := h22.out.frozen 2
    have d3 := h22.out.frozen 3
    have d4 := h22.out.frozen 4
    have dl := h22.out.lt
    simp only [List.getElem?_toArray, List.getElem?_cons_zero, List.getElem?_cons_succ] at c0 c1 c2 c3 c4
    go_wp2_with fail
    have hputs := (h22.out).put5 (.int .i64 0) (.int .i64 0) (.int .i64 0) (.int .i64 0) (.slice none 0 0)
    refine bodyPost_ret (v := .tuple #[.agg #[.int .i64 0, .int .i64 0, .int .i64 0, .int .i64 0, .slice none 0 0], .bool false]) ?_ rfl ?_
    · refine ret_ex2 Tryd.results96 ?_ ?_ hputs rfl
      all_goals rfl
    · exact ⟨zeroX_ret _ _, i, hmv.out.far (grownBy_puts [.int .i64 0, .int .i64 0, .int .i64 0, .int .i64 0, .slice none 0 0] w2 g2 0) (fun k e => by have := HG.out; injection e with e; omega) (by have := HG.out; omega), hiN, fun h => absurd h hi⟩

end Go.Proofs.YtplnhjmomomphaaDoor

namespace Go.Proofs.YtplnhjmomomphaaDoor
set_option linter.unusedVariables false
set_option linter.unusedSimpArgs false
open Go.RowKit

set_option maxRecDepth 20000 in
set_option maxHeartbeats 8000000 in
theorem split5_upon {A : Nat → Prop} (h : Nat) (l : List Vl) (oa : Option Addr) (cap b o : Nat) (w : World) (hA : ∀ b, w.heap.size ≤ b → A b) (hs : Safe A w fun w => VsIn w h oa cap b o l) :
    Calls Tryd.prog 52 #[.slice oa l.length cap] w fun e w' => (∃ v, e = .returned v ∧ isPs A (· < w.heap.size) h (splitV (l.map Vl.c)) v w') ∧ Below w.heap.size w w' := by
  obtain ⟨XL, hXL⟩ : ∃ XL, l.map Vl.c = XL := ⟨_, rfl⟩
  obtain ⟨Y, hY⟩ : ∃ Y, splitV XL = Y := ⟨_, rfl⟩
  rw [hXL, hY]
  obtain ⟨N, hN⟩ : ∃ N, l.length = N := ⟨_, rfl⟩
  have hNX : XL.length = N := by rw [← hXL, List.length_map, hN]
  have hsm := hs.here.small
  have hcm := hs.here.sl.max
  have hcl := hs.here.sl.le
  unfold maxLen at hcm
  rw [hN] at hsm hcl
  have hYl : Y.length ≤ N + 1 := by rw [← hY, ← hNX]; exact splitG_len XL []
  have HS := Lib.hid hs
  have HA := Lib.hid hA
  have HN := Lib.hid (And.intro hN (And.intro hXL (And.intro hNX hY)))
  have HT := Lib.hid (fun (a c : Nat) (hac : a ≤ c) (hc : c ≤ l.length) (wx : World) (hb : Below w.heap.size w wx) =>
    (show (∃ (oa' : Option Addr) (c' : Nat), oa' = (if cap = a then oa else oa.map (·.add (a * 7))) ∧ c' = cap - a ∧ Calls Tryd.prog 27 #[.slice oa' (c - a) c'] wx fun e w' => (∃ v, e = .returned v ∧ isVs A h (trimV ((XL.take c).drop a)) v w') ∧ Below wx.heap.size wx w') from by
      obtain ⟨oa', ho⟩ : ∃ oa', oa' = (if cap = a then oa else oa.map (·.add (a * 7))) := ⟨_, rfl⟩
      obtain ⟨c', hc'⟩ : ∃ c', c' = cap - a := ⟨_, rfl⟩
      refine ⟨oa', c', ho, hc', ?_⟩
      subst ho hc'
      generalize hoa' : (if cap = a then oa else oa.map (·.add (a * 7))) = oa'
      obtain ⟨c', hc'⟩ : ∃ c', cap - a = c' := ⟨_, rfl⟩
      have hlen : ((l.take c).drop a).length = c - a := by rw [List.length_drop, List.length_take]; omega
      have hmap : ((l.take c).drop a).map Vl.c = (XL.take c).drop a := by rw [List.map_drop, List.map_take, hXL]
      rw [← hlen, ← hmap, hc']
      subst hoa' hc'
      exact trim5_safe h ((l.take c).drop a) _ _ b (o + a * 7) wx ((hs.below hb).mono fun _ hz => hz.part hac hc)))
  clear hs hA hN hXL hNX hY
  rw [HN.out.1]
  go_enter Tryd.func52, Tryd.ntmps52
  go_upto_block 0 with fail
  go_cut [3, 4] (fun s3 s4 wx => ∃ (a : Nat) (v : Value) (D : List Value) (P : List (List Vt)), s4 = .int .i64 a ∧ v = s3 ∧ a ≤ N ∧ Hid (Below w.heap.size w wx) ∧ Hid (wx.ownsRow w.heap.size 22 1 v D.length D) ∧ Hid (D.length = P.length ∧ P ++ [trimV (XL.drop a)] = Y) ∧ Hid (∀ (i : Nat) (s : Value) (X : List Vt), D[i]? = some s → P[i]? = some X → isVs (fun b => A b ∨ v.ownBlock = some b) h X s wx))
  case first =>
    go_wp2_with fail
    go_loopg [3, 4, 9] N (fun q s3 s4 s wr => ∃ (i a : Nat) (v : Value) (D : List Value) (P : List (List Vt)), s = .int .i64 i ∧ s4 = .int .i64 a ∧ v = s3 ∧ a ≤ i ∧ i ≤ N ∧ Hid (Below w.heap.size w wr) ∧ Hid (wr.ownsRow w.heap.size 22 1 v D.length D) ∧ Hid (D.length = P.length ∧ P ++ splitG ((XL.take i).drop a) (XL.drop i) = Y) ∧ Hid (∀ (i : Nat) (s : Value) (X : List Vt), D[i]? = some s → P[i]? = some X → isVs (fun b => A b ∨ v.ownBlock = some b) h X s wr) ∧ D.length ≤ i ∧ N - i ≤ q)
    case atStart => exact ⟨0, 0, _, [], [], rfl, rfl, rfl, Nat.le_refl _, Nat.zero_le _, Lib.hid (Below.refl _ _), Lib.hid (World.ownsRow_nil _ _ _ _), Lib.hid ⟨rfl, HN.out.2.2.2⟩, Lib.hid (fun i s X h1 _ => by cases h1), Nat.le_refl _, by omega⟩
    case round =>
      obtain ⟨i, a, v, D, P, rfl, rfl, rfl, hai, hiN, hb, hO, hP, hV, hDi, hq⟩ := hrel
      by_cases hi : i < N
      · have gi : decide ((i : Int) < (N : Int)) = true := by simpa using hi
        have gin : decide (i < N) = true := by simpa using hi
        have hil : i < l.length := by rw [HN.out.1]; exact hi
        have hli : l[i]? = some l[i] := List.getElem?_eq_getElem hil
        have hs2 := (HS.out.below hb.out).here
        obtain ⟨rfl, hbl⟩ := hs2.sl.lies (by omega)
        obtain ⟨x, hx⟩ : ∃ x, l[i] = x := ⟨_, rfl⟩
        rw [hx] at hli
        have hxl : i < XL.length := by rw [HN.out.2.2.1]; exact hi
        have hxi : XL[i] = x.c := by
          have : XL[i]? = some x.c := by rw [← HN.out.2.1, List.getElem?_map, hli]; rfl
          exact Option.some.inj ((List.getElem?_eq_getElem hxl).symm.trans this)
        have hdr : XL.drop i = x.c :: XL.drop (i + 1) := by rw [List.drop_eq_getElem_cons hxl, hxi]
        have htk : (XL.take (i + 1)).drop a = (XL.take i).drop a ++ [x.c] := by rw [List.take_succ_eq_append_getElem hxl, hxi, List.drop_append_of_le_length (by rw [List.length_take]; omega)]
        obtain ⟨t, koa, kb, ko, kcap, kids⟩ := x
        obtain ⟨K, hK⟩ : ∃ K, kids.length = K := ⟨_, rfl⟩
        have f0 := hs2.cell hli (j := 0) rfl
        have f1 := hs2.cell hli (j := 1) rfl
        have f2 := hs2.cell hli (j := 2) rfl
        have f3 := hs2.cell hli (j := 3) rfl
        have f4 := hs2.cell hli (j := 4) rfl
        have f5 := hs2.cell hli (j := 5) rfl
        have f6 := hs2.cell hli (j := 6) rfl
        rw [Nat.add_zero] at f0
        rw [hK] at f6
        obtain ⟨tk, tt, ⟨tn, td⟩, ti, tid⟩ := t
        rw [Vl.c_mk] at hdr htk
        have HD := Lib.hid (And.intro hdr htk)
        clear hs2 hli hil hx hxi hxl hdr htk hK
        go_upto_region 6 with fail
        have hb1 := Lib.hid (hb.out.alloc hb.out.size (.cells #[.int .i64 tk, .string ⟨tt.toArray⟩, .int .i64 tn, .int .i64 td, .bool ti, .bool tid, .slice koa K kcap] 53))
        have hbx := Blk.new wr 53 #[.int .i64 tk, .string ⟨tt.toArray⟩, .int .i64 tn, .int .i64 td, .bool ti, .bool tid, .slice koa K kcap]
        have hO1 := Lib.hid (hO.out.alloc (.cells #[.int .i64 tk, .string ⟨tt.toArray⟩, .int .i64 tn, .int .i64 td, .bool ti, .bool tid, .slice koa K kcap] 53))
        have hV1 := Lib.hid (fun i s X h1 h2 => isVs_stays _ _ _ s _ _ (hV.out i s X h1 h2) (below_box wr (.cells #[.int .i64 tk, .string ⟨tt.toArray⟩, .int .i64 tn, .int .i64 td, .bool ti, .bool tid, .slice koa K kcap] 53)))
        clear f0 f1 f2 f3 f4 f5 f6 hb hO hV
        generalize wr.heap.size = g6 at *
        generalize wr.alloc _ = w1 at *
        have cb0 : w1.cell? ⟨g6, 0, none⟩ = some (.int .i64 tk) := (hbx).cell 0
        have fcb0 := (hbx).frozen 0
        have cb1 : w1.cell? ⟨g6, 1, none⟩ = some (.string ⟨tt.toArray⟩) := (hbx).cell 1
        have fcb1 := (hbx).frozen 1
        have cb2 : w1.cell? ⟨g6, 2, none⟩ = some (.int .i64 tn) := (hbx).cell 2
        have fcb2 := (hbx).frozen 2
        have cb3 : w1.cell? ⟨g6, 3, none⟩ = some (.int .i64 td) := (hbx).cell 3
        have fcb3 := (hbx).frozen 3
        have cb4 : w1.cell? ⟨g6, 4, none⟩ = some (.bool ti) := (hbx).cell 4
        have fcb4 := (hbx).frozen 4
        have cb5 : w1.cell? ⟨g6, 5, none⟩ = some (.bool tid) := (hbx).cell 5
        have fcb5 := (hbx).frozen 5
        have cb6 : w1.cell? ⟨g6, 6, none⟩ = some (.slice koa K kcap) := (hbx).cell 6
        have fcb6 := (hbx).frozen 6
        have lcb := (hbx).lt
        clear hbx
        by_cases hk : tk = 18
        · have hcomma : commaV (.mk ⟨tk, tt, (tn, td), ti, tid⟩ (kids.map Vl.c)) = true := by rw [commaV_c]; simpa using hk
          have HC := Lib.hid hcomma
          clear hcomma
          subst hk
          have iai : (a : Int) ≤ (i : Int) := by omega
          have iic : (i : Int) ≤ (cap : Int) := by omega
          obtain ⟨oa', c', hoa', hc', hcall⟩ := HT.out a i hai (by rw [HN.out.1]; omega) w1 hb1.out
          obtain ⟨M, hM⟩ : ∃ M, i - a = M := ⟨_, rfl⟩
          rw [hM] at hcall
          rw [if_neg (by omega), Option.map_some, Addr.add_lit] at hoa'
          subst hoa' hc'
          have HCALL := Lib.hid hcall
          have HO1 := hO1
          clear hcall
          go_wp2_with fail
          ((with_reducible refine HCALL.out.mono ?_); rintro e w2 ⟨⟨s, rfl, hvs⟩, hbb⟩)
          obtain ⟨soa, sn, scap, rfl⟩ := hvs.slice
          have HV2 := Lib.hid hvs
          have HB2 := Lib.hid hbb
          have hO2 := Lib.hid (owns_belowW hO1.out hbb)
          have hV2 := Lib.hid (fun i s X h1 h2 => isVs_stays _ _ _ s _ _ (hV1.out i s X h1 h2) hbb)
          have HVL := Lib.hid (fun k hk => (hO1.out.lt k hk))
          have hw2 := (hb1.out.trans (Below.mono hbb hb1.out.size)).size
          clear hvs hbb HCALL hV1 cb0 cb1 cb2 cb3 cb4 cb5 cb6 fcb0 fcb1 fcb2 fcb3 fcb4 fcb5 fcb6 lcb
          go_wp2_with (at_builtin; refine wpList_add elVs rfl _ _ rfl rfl (hO2.out.alloc _) (by simp; omega) (Blk.new w2 _ _) 1 rfl rfl (by simp [Value.oneCell']) (by omega) (by omega) ?_; intro gg cap3 w3 ho3 hg3 hat hvb; have H3 := Lib.hid (And.intro ho3 (And.intro hg3 hat)); clear ho3 hg3 hat hvb)
          go_roundg (N - (i + 1))
          case measure => omega
          case rel =>
            obtain ⟨ho3, hg3, hat⟩ := H3.out
            have hgc := grownBy_trans (World.grownBy_alloc w2 _ _) hg3
            refine ⟨i + 1, i + 1, _, D ++ [.slice soa sn scap], P ++ [trimV ((XL.take i).drop a)], by go_num, by go_num, rfl, Nat.le_refl _, hi, Lib.hid ?_, Lib.hid ?_, Lib.hid ⟨by rw [List.length_append, List.length_append, hP.out.1]; rfl, ?_⟩, Lib.hid ?_, by rw [List.length_append, List.length_singleton]; omega, Nat.le_refl _⟩
            · exact (hb1.out.trans (Below.mono HB2.out hb1.out.size)).grown hgc hw2 (fun k hk => (HVL.out k hk).1)
            · rw [List.length_append, List.length_singleton]
              simpa using ho3
            · have hp := hP.out.2
              rw [HD.out.1, splitG_comma HC.out] at hp
              have e : (XL.take (i + 1)).drop (i + 1) = [] := List.drop_eq_nil_of_le (by rw [List.length_take]; omega)
              rw [← hp, List.append_assoc, e]
              rfl
            · intro j s X h1 h2
              have hggw : ∀ b, b = gg → v.ownBlock = some b ∨ w2.heap.size ≤ b := fun b e => by
                subst e
                exact hat.imp id fun e => by rw [e]; simp
              have hA : ∀ b, (A b ∨ b = gg) → (A b ∨ v.ownBlock = some b) ∨ w2.heap.size ≤ b := fun b hb => by
                rcases hb with hb | hb
                · exact Or.inl (Or.inl hb)
                · exact (hggw b hb).imp Or.inr id
              rcases Nat.lt_or_ge j D.length with hj | hj
              · rw [List.getElem?_append_left hj] at h1
                rw [List.getElem?_append_left (by rw [← hP.out.1]; exact hj)] at h2
                have hv0 := hV2.out j s X h1 h2
                have hv1 := isVs.anti (A' := fun b => (A b ∨ v.ownBlock = some b) ∨ w2.heap.size ≤ b) hv0 (fun b hb => hb)
                refine (hv1.grown hgc fun k hk _ => Or.inl (Or.inr hk)).anti fun b hb => ?_
                refine Or.inl (hA b (hb.imp id fun e => (Option.some.inj e).symm))
              · have hjD : j = D.length := by
                  have := (List.getElem?_eq_some_iff.1 h1).1
                  rw [List.length_append, List.length_singleton] at this
                  omega
                subst hjD
                rw [List.getElem?_append_right (Nat.le_refl _), Nat.sub_self] at h1
                rw [hP.out.1, List.getElem?_append_right (Nat.le_refl _), Nat.sub_self] at h2
                obtain rfl := Option.some.inj h1
                obtain rfl := Option.some.inj h2
                have hv1 := isVs.anti (A' := fun b => (A b ∨ v.ownBlock = some b ∨ b = gg)) HV2.out (fun b hb => by
                  rcases hb with hb | hb | hb
                  · exact Or.inl hb
                  · exact Or.inl (HA.out b (HVL.out b hb).1)
                  · rcases hggw b hb with h3 | h3
                    · exact Or.inl (HA.out b (HVL.out b h3).1)
                    · exact Or.inr h3)
                refine (hv1.grown hgc fun k hk _ => Or.inr (Or.inl hk)).anti fun b hb => ?_
                rcases hb with hb | hb
                · exact Or.inl (Or.inl hb)
                · exact Or.inl (Or.inr (Or.inr (Option.some.inj hb).symm))
        · have hcomma : commaV (.mk ⟨tk, tt, (tn, td), ti, tid⟩ (kids.map Vl.c)) = false := by rw [commaV_c]; simpa using hk
          have HC := Lib.hid hcomma
          have gk : (tk == (18 : Int)) = false := by simpa using hk
          clear hcomma hk
          go_wp2_with fail
          go_roundg (N - (i + 1))
          case measure => omega
          case rel => exact ⟨i + 1, a, v, D, P, by go_num, rfl, rfl, by omega, hi, hb1, hO1, Lib.hid ⟨hP.out.1, by rw [← hP.out.2, HD.out.1, HD.out.2, splitG_other HC.out]⟩, hV1, by omega, Nat.le_refl _⟩
      · obtain rfl : i = N := by omega
        have gi : decide ((i : Int) < (i : Int)) = false := by simp
        have gin : decide (i < i) = false := by simp
        go_wp2_with fail
        go_meet
        case rel => exact ⟨a, v, D, P, rfl, rfl, hai, hb, hO, Lib.hid ⟨hP.out.1, by rw [← hP.out.2, List.drop_eq_nil_of_le (show XL.length ≤ i by rw [HN.out.2.2.1]; exact Nat.le_refl _), List.take_of_length_le (by rw [HN.out.2.2.1]; exact Nat.le_refl _)]; rfl⟩, hV⟩
  case rest =>
    obtain ⟨a, v, D, P, rfl, rfl, haN, hb, hO, hP, hV⟩ := hcut
    obtain ⟨oa', c', hoa', hc', hcall⟩ := HT.out a N haN (by rw [HN.out.1]; exact Nat.le_refl _) wc hb.out
    have hPl : D.length ≤ N := by
      have h1 := congrArg List.length hP.out.2
      rw [List.length_append, List.length_singleton] at h1
      have := hP.out.1
      omega
    have hXd : (XL.take N).drop a = XL.drop a := by rw [List.take_of_length_le (by rw [HN.out.2.2.1]; exact Nat.le_refl _)]
    rw [hXd] at hcall
    have iai : (a : Int) ≤ (N : Int) := by omega
    have iaN : a ≤ N := haN
    have iic : (N : Int) ≤ (cap : Int) := by omega
    have hDX := Lib.hid (show ∀ s X (DD : List Value), DD = D ++ [s] → X = trimV (XL.drop a) → ∀ (wz : World), (∀ (i : Nat) (s : Value) (X : List Vt), D[i]? = some s → P[i]? = some X → isVs A h X s wz) → isVs A h X s wz → ∀ (i : Nat) (s : Value) (X : List Vt), DD[i]? = some s → Y[i]? = some X → isVs A h X s wz from by
      rintro s X DD rfl rfl wz k1 k2 j s' X' h1 h2
      rw [← hP.out.2] at h2
      rcases Nat.lt_or_ge j D.length with hj | hj
      · rw [List.getElem?_append_left hj] at h1
        rw [List.getElem?_append_left (by rw [← hP.out.1]; exact hj)] at h2
        exact k1 j s' X' h1 h2
      · have hjD : j = D.length := by
          have := (List.getElem?_eq_some_iff.1 h1).1
          rw [List.length_append, List.length_singleton] at this
          omega
        subst hjD
        rw [List.getElem?_append_right (Nat.le_refl _), Nat.sub_self] at h1
        rw [hP.out.1, List.getElem?_append_right (Nat.le_refl _), Nat.sub_self] at h2
        obtain rfl := Option.some.inj h1
        obtain rfl := Option.some.inj h2
        exact k2)
    have hYD : Y.length = D.length + 1 := by rw [← hP.out.2, List.length_append, List.length_singleton, hP.out.1]
    obtain ⟨M, hM⟩ : ∃ M, N - a = M := ⟨_, rfl⟩
    rw [hM] at hcall
    clear hXd
    go_wp2_with fail
    all_goals
      first
        | (have e : cap = a := by assumption
           rw [if_pos e] at hoa'
           have hc0 : c' = 0 := by omega
           rw [hoa', hc0] at hcall)
        | (have e : ¬ cap = a := by assumption
           rw [if_neg e] at hoa'
           rw [hoa', hc'] at hcall)
      ((with_reducible refine hcall.mono ?_); rintro e w2 ⟨⟨s, rfl, hvs⟩, hbb⟩)
      obtain ⟨soa, sn, scap, rfl⟩ := hvs.slice
      have HV2 := Lib.hid hvs
      have HB2 := Lib.hid hbb
      have hO2 := Lib.hid (owns_belowW hO.out hbb)
      have hV2 := Lib.hid (fun i s X h1 h2 => isVs_stays _ _ _ s _ _ (hV.out i s X h1 h2) hbb)
      have HVL := Lib.hid (fun k hk => (hO.out.lt k hk))
      have hw2 := (hb.out.trans (Below.mono hbb hb.out.size)).size
      have HBS := Lib.hid hb.out.size
      clear hvs hbb hcall hV hoa' hc'
      go_wp2_with (at_builtin; refine wpList_add elVs rfl _ _ rfl rfl (hO2.out.alloc _) (by simp; omega) (Blk.new w2 _ _) 1 rfl rfl (by simp [Value.oneCell']) (by omega) (by omega) ?_; intro gg cap3 w3 ho3 hg3 hat hvb; have H3 := Lib.hid (And.intro ho3 (And.intro hg3 hat)); clear ho3 hg3 hat hvb)
      go_ret
      obtain ⟨ho3, hg3, hat⟩ := H3.out
      have hgc := grownBy_trans (World.grownBy_alloc w2 _ _) hg3
      have hggB := (ho3.lt gg rfl).1
      refine ⟨⟨_, rfl, some ⟨gg, 0, none⟩, cap3, gg, D ++ [.slice soa sn scap], by rw [List.length_append, List.length_singleton]; rfl, by rw [List.length_append, List.length_singleton, hYD], ?_, hDX.out _ _ _ rfl rfl w3 (fun j s X h1 h2 => ?_) ?_⟩, (hb.out.trans (Below.mono HB2.out hb.out.size)).grown hgc hw2 (fun k hk => (HVL.out k hk).1)⟩
      · obtain ⟨oa2, cap2, g2, hv2, hsl, hpos⟩ := sl_of_own ho3
        injection hv2 with e1 _ e2
        subst e1 e2
        have hsl2 : Sl w3 (some ⟨gg, 0, none⟩) (D ++ [Value.slice soa sn scap]).length cap3 gg 0 1 (D ++ [.slice soa sn scap]) := by
          obtain ⟨e3, _⟩ := hsl.lies (Nat.succ_pos _)
          injection e3 with e3
          injection e3 with e3
          subst e3
          rw [List.length_append, List.length_singleton]
          simpa using hsl
        exact hsl2.safe (fun _ h => by omega)
      · have hv1 := isVs.anti (A' := fun b => (A b ∨ v.ownBlock = some b) ∨ w2.heap.size ≤ b) (hV2.out j s X h1 h2) (fun b hb => hb)
        exact (hv1.grown hgc fun k hk _ => Or.inl (Or.inr hk)).anti fun b hb => Or.inl (Or.inl (Or.inl hb))
      · have hv1 := isVs.anti (A' := fun b => (A b ∨ v.ownBlock = some b)) HV2.out (fun b hb => by
          rcases hb with hb | hb
          · exact Or.inl hb
          · exact Or.inl (HA.out b (HVL.out b hb).1))
        exact (hv1.grown hgc fun k hk _ => Or.inr hk).anti fun b hb => Or.inl (Or.inl hb)

theorem split5_safe {A : Nat → Prop} (h : Nat) (l : List Vl) (oa : Option Addr) (cap b o : Nat) (w : World) (hs : Safe A w fun w => VsIn w h oa cap b o l) :
    Calls Tryd.prog 52 #[.slice oa l.length cap] w fun e w' => (∃ v, e = .returned v ∧ isPs A (· < w.heap.size) h (splitV (l.map Vl.c)) v w') ∧ Below w.heap.size w w' :=
  (split5_upon (A := fun b => A b ∨ w.heap.size ≤ b) h l oa cap b o w (fun _ h => Or.inr h) (hs.wide fun _ h => h)).mono fun _ w' ⟨⟨v, he, oa2, cap2, b2, D, hv, hl, h1, h2⟩, hb⟩ => ⟨⟨v, he, oa2, cap2, b2, D, hv, hl, h1, fun i s X hi hj => (h2 i s X hi hj).anti fun _ h => Or.inl (Or.inl h)⟩, hb⟩

end Go.Proofs.YtplnhjmomomphaaDoor
