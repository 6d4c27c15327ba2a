/- Of my texts: TextL. -/
import Derived.Test.YtplnhjmomomphaaGreatDoorM33
import Derived.Test.YtplnhjmomomphaaGreatDoorM34
import Derived.Test.YtplnhjmomomphaaGreatDoorM35
import Derived.Test.YtplnhjmomomphaaGreatDoorM39
namespace Go.Proofs.YtplnhjmomomphaaGreatDoor
set_option linter.unusedVariables false
set_option linter.unusedSimpArgs false
open Go.RowKit
def writes (h : Nat) (e : Et) : Bool := mayT 340 e && shapeP h false false e
def textO (h : Nat) (e : Et) : Value := if writes h e then .tuple #[.string ⟨(textW h e).toArray⟩, .int .i64 0] else .tuple #[.string ⟨#[]⟩, .int .i64 1]
theorem writes_wr {h : Nat} {e : Et} (hw : writes h e = true) : Wr h e := by
 unfold writes at hw
 rw [Bool.and_eq_true] at hw
 have h2 := hw.2
 rw [shape_same h 340 false false e hw.1] at h2
 simp only [Bool.and_eq_true, decide_eq_true_eq] at h2
 exact ⟨h2.2, ⟨_, hw.1⟩, fun e => absurd (h2.1.1 e) (by decide), fun e => absurd (h2.1.2 e) (by decide)⟩
theorem writes_R (h : Nat) (e : Et) : writes h e = (mayT 340 e && (decide (e.kind ≠ 3) && decide (e.kind ≠ 5) && shapeR h e)) := by
 unfold writes
 cases hm : mayT 340 e with
 | false => rfl
 | true =>
   rw [shape_same h 340 false false e hm]
   by_cases a : e.kind = 3 <;> by_cases b : e.kind = 5 <;> simp [a, b]
theorem textW_par {h : Nat} {e : Et} (hk : e.kind = 2 ∨ e.kind = 4) : textW h e = [99, 97, 108, 99, 40] ++ sumT h e ++ [41] := by
 unfold textW
 rw [if_pos hk]
 simp [calcS]
theorem textW_oper {h : Nat} {e : Et} (hk : ¬ (e.kind = 2 ∨ e.kind = 4)) : textW h e = operX (sumT h) e := by
 unfold textW
 rw [if_neg hk]
theorem perE_le {n : Nat} (h : n ≤ 1048576) : perE * n ≤ 2199023255552 := by
 unfold perE
 omega
set_option maxRecDepth 20000 in
set_option maxHeartbeats 8000000 in
theorem cText_any (h : Nat) (e : Ex) (w : World) (hx : ExIn w (h + 1) e) (hd : Deb w) (hz : szE e.c ≤ 1048576) :
 Calls Tryz.prog 8 #[xv e] w fun x w' => x = .returned (textO (h + 1) e.c) ∧ Below w.heap.size w w' := by
 have h1 := fun w2 (hb : Below w.heap.size w w2) => cMay_any (h + 1) e w2 (hx.below (h + 1) hb)
 have h2 := fun w2 (hb : Below w.heap.size w w2) => cshaped_any (h + 1) false false e w2 (hx.below (h + 1) hb) (hd.below hb)
 obtain ⟨WR, hWR⟩ : ∃ x, writes (h + 1) e.c = x := ⟨_, rfl⟩
 have hWR2 := hWR
 unfold writes at hWR2
 have hwr := fun hh : WR = true => writes_wr (hWR.trans hh)
 have hok := okE_of (h + 1) hx
 obtain ⟨M, hM⟩ : ∃ x, mayE 340 e = x := ⟨_, rfl⟩
 have hM2 := hM
 rw [mayE_T] at hM2
 simp only [hM] at h1
 rw [hM2] at hWR2
 obtain ⟨SH, hSH⟩ : ∃ x, shapeP (h + 1) false false e.c = x := ⟨_, rfl⟩
 rw [hSH] at hWR2 h2
 unfold textO
 rw [hWR]
 have HX := Lib.hid hx
 have HD := Lib.hid hd
 have HWR := Lib.hid hwr
 have HZ := Lib.hid (And.intro hz hok)
 have HE := Lib.hid (Eq.refl e)
 obtain ⟨k, n, d, u, oa, bb, o, cap, kids⟩ := e
 simp only [xv_mk] at h1 h2 ⊢
 obtain ⟨L, hL⟩ : ∃ L, kids.length = L := ⟨_, rfl⟩
 simp only [hL] at h1 h2 ⊢
 have H1 := Lib.hid h1
 have H2 := Lib.hid h2
 have HW := Lib.hid hWR2
 have HL := Lib.hid hL
 clear h1 h2 hM hM2 hSH hWR hWR2 hx hd hz hok hwr hL
 cases M with
 | false =>
   obtain rfl : WR = false := by have := HW.out; simpa using this.symm
   go_enter Tryz.func8, Tryz.ntmps8
   go_wp2_with fail
   ((with_reducible refine (H1.out _ (below_box _ _)).mono ?_); rintro e w' ⟨rfl, hbw⟩)
   obtain ⟨m1, rfl⟩ := grow_mk hbw
   clear hbw
   go_wp2_with fail
   go_ret2
   exact ⟨rfl, below_grow (below_box _ _) m1⟩
 | true =>
   go_enter Tryz.func8, Tryz.ntmps8
   go_wp2_with fail
   ((with_reducible refine (H1.out _ (below_box _ _)).mono ?_); rintro e w' ⟨rfl, hbw⟩)
   obtain ⟨m1, rfl⟩ := grow_mk hbw
   clear hbw
   have hb1 := below_grow (below_box w (.cells #[.int .i64 k, .int .i64 n, .int .i64 d, .int .i64 u, .slice oa L cap] 27)) m1
   have hx1 := (Blk.new w 27 #[.int .i64 k, .int .i64 n, .int .i64 d, .int .i64 u, .slice oa L cap]).grow m1
   obtain ⟨g, hg⟩ : ∃ g, w.heap.size = g := ⟨_, rfl⟩
   rw [hg] at hx1
   simp only [hg]
   generalize grow _ m1 = w1 at *
   have HG := Lib.hid hg
   have HB1 := Lib.hid hb1
   have HX1 := Lib.hid hx1
   obtain ⟨ca0, fca0, ca1, fca1, ca2, fca2, ca3, fca3, ca4, fca4, lca⟩ := Blk.five (hx1)
   clear hb1 hg hx1
   go_wp2_with fail
   ((with_reducible refine (H2.out _ HB1.out).mono ?_); rintro e w' ⟨rfl, hbw⟩)
   obtain ⟨m2, rfl⟩ := grow_mk hbw
   clear hbw
   have hb2 := below_grow HB1.out m2
   have hx2 := HX1.out.grow m2
   generalize grow _ m2 = w2 at *
   have HB2 := Lib.hid hb2
   have HX2 := Lib.hid hx2
   clear hb2 ca0 ca1 ca2 ca3 ca4 fca0 fca1 fca2 fca3 fca4 lca
   cases SH with
   | false =>
     obtain rfl : WR = false := by have := HW.out; simpa using this.symm
     clear hx2
     go_wp2_with fail
     go_ret2
     exact ⟨rfl, HB2.out⟩
   | true =>
     obtain rfl : WR = true := by have := HW.out; simpa using this.symm
     have hwr := HWR.out rfl
     obtain ⟨ca0, fca0, ca1, fca1, ca2, fca2, ca3, fca3, ca4, fca4, lca⟩ := Blk.five (hx2)
     clear hx2
     go_upto_region 4 with fail
     have hlt2 := HX2.out.lt
     have HS := Lib.hid (wsum_all w2 (HD.out.below HB2.out))
     have hisw : IsW w2.heap.size w2.heap.size [] (w2.alloc (.cells #[.pointer none, .slice none 0 0] 52)) :=
      Or.inl ⟨Nat.le_refl _, .slice none 0 0, heap_alloc_new w2 _, World.ownsRow_nil _ _ _ _, by simp [Value.ownBlock]⟩
     have hlen := Nat.le_trans (textW_len hwr HZ.out.2) (perE_le HZ.out.1)
     have hne := textW_ne hwr
     have hx3 : Blk (w2.alloc (.cells #[.pointer none, .slice none 0 0] 52)) g 27 #[.int .i64 k, .int .i64 n, .int .i64 d, .int .i64 u, .slice oa L cap] := HX2.out.old _
     have hB3 : w2.heap.size ≤ (w2.alloc (.cells #[.pointer none, .slice none 0 0] 52)).heap.size := (below_box _ _).size
     have HB3 := Lib.hid (below_box w2 (.cells #[.pointer none, .slice none 0 0] 52))
     obtain ⟨gw, hgw⟩ : ∃ gw, w2.heap.size = gw := ⟨_, rfl⟩
     rw [hgw] at hisw hlt2 hB3
     simp only [hgw]
     have HGW := Lib.hid hgw
     clear hgw ca0 ca1 ca2 ca3 ca4 fca0 fca1 fca2 fca3 fca4 lca
     generalize w2.alloc _ = w3 at *
     have HN := Lib.hid (And.intro hlen (And.intro hne (And.intro hB3 (And.intro hlt2 hwr))))
     have HI := Lib.hid hisw
     have HX3 := Lib.hid hx3
     clear hlen hne hB3 hisw hwr
     by_cases hk2 : k = 2
     · subst hk2
       have hx3 := HX3.out
       obtain ⟨ca0, fca0, ca1, fca1, ca2, fca2, ca3, fca3, ca4, fca4, lca⟩ := Blk.five (hx3)
       have hT := textW_par (h := h + 1) (e := (Ex.mk 2 n d u oa bb o cap kids).c) (by rw [Ex.c_mk, kind_mk]; omega)
       have hlen := HN.out.1
       have hne := HN.out.2.1
       have hT9 := hT
       rw [hT] at hlen hne
       simp only [List.length_append, List.length_cons, List.length_nil] at hlen
       have HPUT := Lib.hid (writeString_any gw gw [] [99, 97, 108, 99, 40] w3 HI.out (by simp only [List.length_cons, List.length_nil]; omega) HN.out.2.2.1)
       have hcall := fun wx (hwx : Wb gw gw [99, 97, 108, 99, 40] w3 wx) => HS.out (h + 1) (Ex.mk 2 n d u oa bb o cap kids) gw gw [99, 97, 108, 99, 40] wx ⟨HX.out.below (w' := w2) _ HB2.out, HN.out.2.2.2.2⟩ (Nat.le_of_eq HGW.out) (HB3.out.trans (by rw [HGW.out]; exact hwx.below)) hwx.is (Nat.le_trans HN.out.2.2.1 hwx.below.size) (by simp only [List.length_cons, List.length_nil]; omega)
       rw [xv_mk, HL.out] at hcall
       obtain ⟨X, hX⟩ : ∃ X, sumT (h + 1) (Ex.mk 2 n d u oa bb o cap kids).c = X := ⟨_, rfl⟩
       rw [hX] at hcall hlen hne hT9
       have HT9 := Lib.hid hT9
       clear hT9
       have HCALL := Lib.hid hcall
       have HNE := Lib.hid (And.intro hlen hne)
       clear hcall hlen hne hT hX hx3
       go_wp2_with fail
       ((with_reducible refine HPUT.out.mono ?_); rintro e w4 ⟨rfl, hw4⟩)
       have HW4 := Lib.hid hw4
       have hx4 := HX3.out.below hw4.below hlt2
       obtain ⟨cb0, fcb0, cb1, fcb1, cb2, fcb2, cb3, fcb3, cb4, fcb4, lcb⟩ := Blk.five (hx4)
       have hc4 := HCALL.out w4 hw4
       have HC4 := Lib.hid hc4
       clear hw4 hc4 hx4
       go_wp2_with fail
       ((with_reducible refine HC4.out.mono ?_); rintro e w5 ⟨rfl, hw5⟩)
       have HW5 := Lib.hid (HW4.out.trans hw5)
       have HP5 := Lib.hid (writeString_any gw gw ([99, 97, 108, 99, 40] ++ X) [41] w5 hw5.is (by have := HNE.out.1; simp only [List.length_append, List.length_cons, List.length_nil]; omega) (Nat.le_trans HN.out.2.2.1 HW5.out.below.size))
       clear hw5
       go_wp2_with fail
       ((with_reducible refine HP5.out.mono ?_); rintro e w6 ⟨rfl, hw6⟩)
       have HW6 := Lib.hid (HW5.out.trans hw6)
       have HST := Lib.hid (builderString_some gw gw _ w6 hw6.is HNE.out.2)
       clear hw6
       go_wp2_with fail
       ((with_reducible refine HST.out.mono ?_); rintro e w7 ⟨rfl, hw7⟩)
       have HF := Lib.hid (show Below w.heap.size w w7 from HB2.out.trans (Below.mono (HB3.out.trans (by rw [HGW.out]; exact HW6.out.below.trans hw7)) (by have := HB2.out.size; omega)))
       clear hw7
       go_wp2_with fail
       go_ret2
       exact ⟨by rw [HT9.out]; rfl, by have := HF.out; rwa [HG.out] at this⟩
     · by_cases hk4 : k = 4
       · subst hk4
         have hx3 := HX3.out
         obtain ⟨ca0, fca0, ca1, fca1, ca2, fca2, ca3, fca3, ca4, fca4, lca⟩ := Blk.five (hx3)
         have hT := textW_par (h := h + 1) (e := (Ex.mk 4 n d u oa bb o cap kids).c) (by rw [Ex.c_mk, kind_mk]; omega)
         have hlen := HN.out.1
         have hne := HN.out.2.1
         have hT9 := hT
         rw [hT] at hlen hne
         simp only [List.length_append, List.length_cons, List.length_nil] at hlen
         have HPUT := Lib.hid (writeString_any gw gw [] [99, 97, 108, 99, 40] w3 HI.out (by simp only [List.length_cons, List.length_nil]; omega) HN.out.2.2.1)
         have hcall := fun wx (hwx : Wb gw gw [99, 97, 108, 99, 40] w3 wx) => HS.out (h + 1) (Ex.mk 4 n d u oa bb o cap kids) gw gw [99, 97, 108, 99, 40] wx ⟨HX.out.below (w' := w2) _ HB2.out, HN.out.2.2.2.2⟩ (Nat.le_of_eq HGW.out) (HB3.out.trans (by rw [HGW.out]; exact hwx.below)) hwx.is (Nat.le_trans HN.out.2.2.1 hwx.below.size) (by simp only [List.length_cons, List.length_nil]; omega)
         rw [xv_mk, HL.out] at hcall
         obtain ⟨X, hX⟩ : ∃ X, sumT (h + 1) (Ex.mk 4 n d u oa bb o cap kids).c = X := ⟨_, rfl⟩
         rw [hX] at hcall hlen hne hT9
         have HT9 := Lib.hid hT9
         clear hT9
         have HCALL := Lib.hid hcall
         have HNE := Lib.hid (And.intro hlen hne)
         clear hcall hlen hne hT hX hx3
         go_wp2_with fail
         ((with_reducible refine HPUT.out.mono ?_); rintro e w4 ⟨rfl, hw4⟩)
         have HW4 := Lib.hid hw4
         have hx4 := HX3.out.below hw4.below hlt2
         obtain ⟨cb0, fcb0, cb1, fcb1, cb2, fcb2, cb3, fcb3, cb4, fcb4, lcb⟩ := Blk.five (hx4)
         have hc4 := HCALL.out w4 hw4
         have HC4 := Lib.hid hc4
         clear hw4 hc4 hx4
         go_wp2_with fail
         ((with_reducible refine HC4.out.mono ?_); rintro e w5 ⟨rfl, hw5⟩)
         have HW5 := Lib.hid (HW4.out.trans hw5)
         have HP5 := Lib.hid (writeString_any gw gw ([99, 97, 108, 99, 40] ++ X) [41] w5 hw5.is (by have := HNE.out.1; simp only [List.length_append, List.length_cons, List.length_nil]; omega) (Nat.le_trans HN.out.2.2.1 HW5.out.below.size))
         clear hw5
         go_wp2_with fail
         ((with_reducible refine HP5.out.mono ?_); rintro e w6 ⟨rfl, hw6⟩)
         have HW6 := Lib.hid (HW5.out.trans hw6)
         have HST := Lib.hid (builderString_some gw gw _ w6 hw6.is HNE.out.2)
         clear hw6
         go_wp2_with fail
         ((with_reducible refine HST.out.mono ?_); rintro e w7 ⟨rfl, hw7⟩)
         have HF := Lib.hid (show Below w.heap.size w w7 from HB2.out.trans (Below.mono (HB3.out.trans (by rw [HGW.out]; exact HW6.out.below.trans hw7)) (by have := HB2.out.size; omega)))
         clear hw7
         go_wp2_with fail
         go_ret2
         exact ⟨by rw [HT9.out]; rfl, by have := HF.out; rwa [HG.out] at this⟩
       · have gk2 : (k == 2) = false := by simpa using hk2
         have gk4 : (k == 4) = false := by simpa using hk4
         have hx3 := HX3.out
         obtain ⟨ca0, fca0, ca1, fca1, ca2, fca2, ca3, fca3, ca4, fca4, lca⟩ := Blk.five (hx3)
         have hT := textW_oper (h := h + 1) (e := (Ex.mk k n d u oa bb o cap kids).c) (by rw [Ex.c_mk, kind_mk]; omega)
         have hlen := HN.out.1
         have hne := HN.out.2.1
         have hT9 := hT
         rw [hT] at hlen hne
         have hcall := woper_step w2 (h + 1) (HD.out.below HB2.out) (HS.out (h + 1)) (Ex.mk k n d u oa bb o cap kids) gw gw [] w3 ⟨ExIn.mono _ _ (Nat.le_succ _) (HX.out.below (w' := w2) _ HB2.out), HN.out.2.2.2.2.more, fun hh => absurd hh (by rw [Ex.c_mk, kind_mk]; omega)⟩ (Nat.le_of_eq HGW.out) HB3.out HI.out HN.out.2.2.1 (by rw [List.length_nil]; omega)
         rw [xv_mk, HL.out, List.nil_append] at hcall
         obtain ⟨X, hX⟩ : ∃ X, operX (sumT (h + 1)) (Ex.mk k n d u oa bb o cap kids).c = X := ⟨_, rfl⟩
         rw [hX] at hcall hlen hne hT9
         have HT9 := Lib.hid hT9
         clear hT9
         have HCALL := Lib.hid hcall
         have HNE := Lib.hid (And.intro hlen hne)
         clear hcall hlen hne hT hX hx3 hk2 hk4
         go_wp2_with fail
         ((with_reducible refine HCALL.out.mono ?_); rintro e w6 ⟨rfl, hw6⟩)
         have HW6 := Lib.hid hw6
         have HST := Lib.hid (builderString_some gw gw _ w6 hw6.is HNE.out.2)
         clear hw6
         go_wp2_with fail
         ((with_reducible refine HST.out.mono ?_); rintro e w7 ⟨rfl, hw7⟩)
         have HF := Lib.hid (show Below w.heap.size w w7 from HB2.out.trans (Below.mono (HB3.out.trans (by rw [HGW.out]; exact HW6.out.below.trans hw7)) (by have := HB2.out.size; omega)))
         clear hw7
         go_wp2_with fail
         go_ret2
         exact ⟨by rw [HT9.out]; rfl, by have := HF.out; rwa [HG.out] at this⟩
set_option maxRecDepth 20000 in
set_option maxHeartbeats 8000000 in
theorem rText_any (h : Nat) (e : Ex) (w : World) (hx : ExIn w (h + 1) e) (hd : Pow10 w) (hz : szE e.c ≤ 1048576) :
 Calls Tryz.prog 12 #[xv e] w fun x w' => x = .returned (textO (h + 1) e.c) ∧ Below w.heap.size w w' := by
 have h1 := fun w2 (hb : Below w.heap.size w w2) => rMayE_any (h + 1) e w2 (hx.below (h + 1) hb)
 have h2 := fun w2 (hb : Below w.heap.size w w2) => rshaped_any (h + 1) e w2 (hx.below (h + 1) hb) (hd.below hb)
 obtain ⟨WR, hWR⟩ : ∃ x, writes (h + 1) e.c = x := ⟨_, rfl⟩
 have hWR2 := hWR
 rw [writes_R] at hWR2
 have hwr := fun hh : WR = true => writes_wr (hWR.trans hh)
 have hok := okE_of (h + 1) hx
 obtain ⟨M, hM⟩ : ∃ x, mayE 340 e = x := ⟨_, rfl⟩
 have hM2 := hM
 rw [mayE_T] at hM2
 simp only [hM] at h1
 rw [hM2] at hWR2
 obtain ⟨SH, hSH⟩ : ∃ x, shapeR (h + 1) e.c = x := ⟨_, rfl⟩
 rw [hSH] at hWR2 h2
 unfold textO
 rw [hWR]
 have HX := Lib.hid hx
 have HD := Lib.hid hd
 have HWR := Lib.hid hwr
 have HZ := Lib.hid (And.intro hz hok)
 obtain ⟨k, n, d, u, oa, bb, o, cap, kids⟩ := e
 rw [Ex.c_mk, kind_mk] at hWR2
 simp only [xv_mk] at h1 h2 ⊢
 obtain ⟨L, hL⟩ : ∃ L, kids.length = L := ⟨_, rfl⟩
 simp only [hL] at h1 h2 ⊢
 have H1 := Lib.hid h1
 have H2 := Lib.hid h2
 have HW := Lib.hid hWR2
 have HL := Lib.hid hL
 clear h1 h2 hM hM2 hSH hWR hWR2 hx hd hz hok hwr hL
 have hb0 := Lib.hid (below_box w (.cells #[.int .i64 k, .int .i64 n, .int .i64 d, .int .i64 u, .slice oa L cap] 27))
 have hx0 := Lib.hid (Blk.new w 27 #[.int .i64 k, .int .i64 n, .int .i64 d, .int .i64 u, .slice oa L cap])
 cases M with
 | false =>
   obtain rfl : WR = false := by have := HW.out; simpa using this.symm
   go_enter Tryz.func12, Tryz.ntmps12
   go_wp2_with fail
   ((with_reducible refine (H1.out _ (below_box _ _)).mono ?_); rintro e w' ⟨rfl, hbw⟩)
   obtain ⟨m1, rfl⟩ := grow_mk hbw
   clear hbw
   go_wp2_with fail
   go_ret2
   exact ⟨rfl, below_grow (below_box _ _) m1⟩
 | true =>
   by_cases hk3 : k = 3
   · subst hk3
     obtain rfl : WR = false := by have := HW.out; simpa using this.symm
     go_enter Tryz.func12, Tryz.ntmps12
     go_wp2_with fail
     ((with_reducible refine (H1.out _ (below_box _ _)).mono ?_); rintro e w' ⟨rfl, hbw⟩)
     obtain ⟨m1, rfl⟩ := grow_mk hbw
     clear hbw
     have hb1 := below_grow hb0.out m1
     have hx1 := hx0.out.grow m1
     obtain ⟨g, hg⟩ : ∃ g, w.heap.size = g := ⟨_, rfl⟩
     rw [hg] at hx1
     simp only [hg]
     generalize grow _ m1 = w1 at *
     have HG := Lib.hid hg
     have HB1 := Lib.hid hb1
     have HX1 := Lib.hid hx1
     obtain ⟨ca0, fca0, ca1, fca1, ca2, fca2, ca3, fca3, ca4, fca4, lca⟩ := Blk.five (hx1)
     clear hb1 hg hx1
     go_wp2_with fail
     go_ret2
     exact ⟨rfl, by have := HB1.out; rwa [HG.out] at this⟩
   · by_cases hk5 : k = 5
     · subst hk5
       obtain rfl : WR = false := by have := HW.out; simpa using this.symm
       go_enter Tryz.func12, Tryz.ntmps12
       go_wp2_with fail
       ((with_reducible refine (H1.out _ (below_box _ _)).mono ?_); rintro e w' ⟨rfl, hbw⟩)
       obtain ⟨m1, rfl⟩ := grow_mk hbw
       clear hbw
       have hb1 := below_grow hb0.out m1
       have hx1 := hx0.out.grow m1
       obtain ⟨g, hg⟩ : ∃ g, w.heap.size = g := ⟨_, rfl⟩
       rw [hg] at hx1
       simp only [hg]
       generalize grow _ m1 = w1 at *
       have HG := Lib.hid hg
       have HB1 := Lib.hid hb1
       have HX1 := Lib.hid hx1
       obtain ⟨ca0, fca0, ca1, fca1, ca2, fca2, ca3, fca3, ca4, fca4, lca⟩ := Blk.five (hx1)
       clear hb1 hg hx1
       go_wp2_with fail
       go_ret2
       exact ⟨rfl, by have := HB1.out; rwa [HG.out] at this⟩
     · have gk3 : (k == 3) = false := by simpa using hk3
       have gk5 : (k == 5) = false := by simpa using hk5
       have HK := Lib.hid (And.intro hk3 hk5)
       by_cases hk2 : k = 2
       · subst hk2
         clear gk3 gk5 hk3 hk5
         go_enter Tryz.func12, Tryz.ntmps12
         go_wp2_with fail
         ((with_reducible refine (H1.out _ (below_box _ _)).mono ?_); rintro e w' ⟨rfl, hbw⟩)
         obtain ⟨m1, rfl⟩ := grow_mk hbw
         clear hbw
         have hb1 := below_grow hb0.out m1
         have hx1 := hx0.out.grow m1
         obtain ⟨g, hg⟩ : ∃ g, w.heap.size = g := ⟨_, rfl⟩
         rw [hg] at hx1
         simp only [hg]
         generalize grow _ m1 = w1 at *
         have HG := Lib.hid hg
         have HB1 := Lib.hid hb1
         have HX1 := Lib.hid hx1
         obtain ⟨ca0, fca0, ca1, fca1, ca2, fca2, ca3, fca3, ca4, fca4, lca⟩ := Blk.five (hx1)
         clear hb1 hg hx1
         go_wp2_with fail
         ((with_reducible refine (H2.out _ HB1.out).mono ?_); rintro e w' ⟨rfl, hbw⟩)
         obtain ⟨m2, rfl⟩ := grow_mk hbw
         clear hbw
         have hb2 := below_grow HB1.out m2
         have hx2 := HX1.out.grow m2
         generalize grow _ m2 = w2 at *
         have HB2 := Lib.hid hb2
         have HX2 := Lib.hid hx2
         clear hb2 ca0 ca1 ca2 ca3 ca4 fca0 fca1 fca2 fca3 fca4 lca
         obtain ⟨cb0, fcb0, cb1, fcb1, cb2, fcb2, cb3, fcb3, cb4, fcb4, lcb⟩ := Blk.five (hx2)
         clear hx2
         cases SH with
         | false =>
           obtain rfl : WR = false := by have := HW.out; simpa [HK.out] using this.symm
           go_wp2_with fail
           go_ret2
           exact ⟨rfl, by have := HB2.out; rwa [HG.out] at this⟩
         | true =>
           obtain rfl : WR = true := by have := HW.out; simpa [HK.out] using this.symm
           have hwr := HWR.out rfl
           have hlen := Nat.le_trans (textW_len hwr HZ.out.2) (perE_le HZ.out.1)
           have hT := textW_par (h := h + 1) (e := (Ex.mk 2 n d u oa bb o cap kids).c) (by rw [Ex.c_mk, kind_mk]; omega)
           have hT9 := hT
           rw [hT] at hlen
           simp only [List.length_append, List.length_cons, List.length_nil] at hlen
           have hcall := rsum_all (h + 1) (Ex.mk 2 n d u oa bb o cap kids) w2 ⟨HX.out.below (w' := w2) _ HB2.out, hwr⟩ (HD.out.below HB2.out) (by omega)
           rw [xv_mk, HL.out] at hcall
           obtain ⟨X, hX⟩ : ∃ X, sumT (h + 1) (Ex.mk 2 n d u oa bb o cap kids).c = X := ⟨_, rfl⟩
           rw [hX] at hcall hlen hT9
           have HT9 := Lib.hid hT9
           clear hT9
           have HCALL := Lib.hid hcall
           have cA := fun w => run_cat_max [99, 97, 108, 99, 40] X (by simp only [List.length_cons, List.length_nil]; omega) w
           have cB := fun w => run_cat_max ([99, 97, 108, 99, 40] ++ X) [41] (by simp only [List.length_append, List.length_cons, List.length_nil]; omega) w
           simp only [List.cons_append, List.nil_append] at cA cB
           clear hcall hlen hT hX hwr
           go_wp2_with fail
           ((with_reducible refine HCALL.out.mono ?_); rintro e w5 ⟨rfl, hw5⟩)
           have HF := Lib.hid (show Below w.heap.size w w5 from HB2.out.trans (hw5.mono HB2.out.size))
           clear hw5
           go_wp2_with fail
           go_ret2
           exact ⟨by rw [HT9.out]; rfl, by have := HF.out; rwa [HG.out] at this⟩
       · by_cases hk4 : k = 4
         · subst hk4
           clear gk3 gk5 hk3 hk5
           go_enter Tryz.func12, Tryz.ntmps12
           go_wp2_with fail
           ((with_reducible refine (H1.out _ (below_box _ _)).mono ?_); rintro e w' ⟨rfl, hbw⟩)
           obtain ⟨m1, rfl⟩ := grow_mk hbw
           clear hbw
           have hb1 := below_grow hb0.out m1
           have hx1 := hx0.out.grow m1
           obtain ⟨g, hg⟩ : ∃ g, w.heap.size = g := ⟨_, rfl⟩
           rw [hg] at hx1
           simp only [hg]
           generalize grow _ m1 = w1 at *
           have HG := Lib.hid hg
           have HB1 := Lib.hid hb1
           have HX1 := Lib.hid hx1
           obtain ⟨ca0, fca0, ca1, fca1, ca2, fca2, ca3, fca3, ca4, fca4, lca⟩ := Blk.five (hx1)
           clear hb1 hg hx1
           go_wp2_with fail
           ((with_reducible refine (H2.out _ HB1.out).mono ?_); rintro e w' ⟨rfl, hbw⟩)
           obtain ⟨m2, rfl⟩ := grow_mk hbw
           clear hbw
           have hb2 := below_grow HB1.out m2
           have hx2 := HX1.out.grow m2
           generalize grow _ m2 = w2 at *
           have HB2 := Lib.hid hb2
           have HX2 := Lib.hid hx2
           clear hb2 ca0 ca1 ca2 ca3 ca4 fca0 fca1 fca2 fca3 fca4 lca
           obtain ⟨cb0, fcb0, cb1, fcb1, cb2, fcb2, cb3, fcb3, cb4, fcb4, lcb⟩ := Blk.five (hx2)
           clear hx2
           cases SH with
           | false =>
             obtain rfl : WR = false := by have := HW.out; simpa [HK.out] using this.symm
             go_wp2_with fail
             go_ret2
             exact ⟨rfl, by have := HB2.out; rwa [HG.out] at this⟩
           | true =>
             obtain rfl : WR = true := by have := HW.out; simpa [HK.out] using this.symm
             have hwr := HWR.out rfl
             have hlen := Nat.le_trans (textW_len hwr HZ.out.2) (perE_le HZ.out.1)
             have hT := textW_par (h := h + 1) (e := (Ex.mk 4 n d u oa bb o cap kids).c) (by rw [Ex.c_mk, kind_mk]; omega)
             have hT9 := hT
             rw [hT] at hlen
             simp only [List.length_append, List.length_cons, List.length_nil] at hlen
             have hcall := rsum_all (h + 1) (Ex.mk 4 n d u oa bb o cap kids) w2 ⟨HX.out.below (w' := w2) _ HB2.out, hwr⟩ (HD.out.below HB2.out) (by omega)
             rw [xv_mk, HL.out] at hcall
             obtain ⟨X, hX⟩ : ∃ X, sumT (h + 1) (Ex.mk 4 n d u oa bb o cap kids).c = X := ⟨_, rfl⟩
             rw [hX] at hcall hlen hT9
             have HT9 := Lib.hid hT9
             clear hT9
             have HCALL := Lib.hid hcall
             have cA := fun w => run_cat_max [99, 97, 108, 99, 40] X (by simp only [List.length_cons, List.length_nil]; omega) w
             have cB := fun w => run_cat_max ([99, 97, 108, 99, 40] ++ X) [41] (by simp only [List.length_append, List.length_cons, List.length_nil]; omega) w
             simp only [List.cons_append, List.nil_append] at cA cB
             clear hcall hlen hT hX hwr
             go_wp2_with fail
             ((with_reducible refine HCALL.out.mono ?_); rintro e w5 ⟨rfl, hw5⟩)
             have HF := Lib.hid (show Below w.heap.size w w5 from HB2.out.trans (hw5.mono HB2.out.size))
             clear hw5
             go_wp2_with fail
             go_ret2
             exact ⟨by rw [HT9.out]; rfl, by have := HF.out; rwa [HG.out] at this⟩
         · have gk2 : (k == 2) = false := by simpa using hk2
           have gk4 : (k == 4) = false := by simpa using hk4
           have HN := Lib.hid (And.intro hk2 hk4)
           clear hk2 hk3 hk4 hk5
           go_enter Tryz.func12, Tryz.ntmps12
           go_wp2_with fail
           ((with_reducible refine (H1.out _ (below_box _ _)).mono ?_); rintro e w' ⟨rfl, hbw⟩)
           obtain ⟨m1, rfl⟩ := grow_mk hbw
           clear hbw
           have hb1 := below_grow hb0.out m1
           have hx1 := hx0.out.grow m1
           obtain ⟨g, hg⟩ : ∃ g, w.heap.size = g := ⟨_, rfl⟩
           rw [hg] at hx1
           simp only [hg]
           generalize grow _ m1 = w1 at *
           have HG := Lib.hid hg
           have HB1 := Lib.hid hb1
           have HX1 := Lib.hid hx1
           obtain ⟨ca0, fca0, ca1, fca1, ca2, fca2, ca3, fca3, ca4, fca4, lca⟩ := Blk.five (hx1)
           clear hb1 hg hx1
           go_wp2_with fail
           ((with_reducible refine (H2.out _ HB1.out).mono ?_); rintro e w' ⟨rfl, hbw⟩)
           obtain ⟨m2, rfl⟩ := grow_mk hbw
           clear hbw
           have hb2 := below_grow HB1.out m2
           have hx2 := HX1.out.grow m2
           generalize grow _ m2 = w2 at *
           have HB2 := Lib.hid hb2
           have HX2 := Lib.hid hx2
           clear hb2 ca0 ca1 ca2 ca3 ca4 fca0 fca1 fca2 fca3 fca4 lca
           obtain ⟨cb0, fcb0, cb1, fcb1, cb2, fcb2, cb3, fcb3, cb4, fcb4, lcb⟩ := Blk.five (hx2)
           clear hx2
           cases SH with
           | false =>
             obtain rfl : WR = false := by have := HW.out; simpa [HK.out] using this.symm
             go_wp2_with fail
             go_ret2
             exact ⟨rfl, by have := HB2.out; rwa [HG.out] at this⟩
           | true =>
             obtain rfl : WR = true := by have := HW.out; simpa [HK.out] using this.symm
             have hwr := HWR.out rfl
             have hlen := Nat.le_trans (textW_len hwr HZ.out.2) (perE_le HZ.out.1)
             have hT := textW_oper (h := h + 1) (e := (Ex.mk k n d u oa bb o cap kids).c) (by rw [Ex.c_mk, kind_mk]; have := HN.out; omega)
             have hT9 := hT
             rw [hT] at hlen
             have hcall := roper_step (h + 1) (rsum_all (h + 1)) (Ex.mk k n d u oa bb o cap kids) w2 ⟨ExIn.mono _ _ (Nat.le_succ _) (HX.out.below (w' := w2) _ HB2.out), hwr.more, fun hh => absurd hh (by rw [Ex.c_mk, kind_mk]; have := HN.out; omega)⟩ (HD.out.below HB2.out) (by omega)
             rw [xv_mk, HL.out] at hcall
             obtain ⟨X, hX⟩ : ∃ X, operX (sumT (h + 1)) (Ex.mk k n d u oa bb o cap kids).c = X := ⟨_, rfl⟩
             rw [hX] at hcall hlen hT9
             have HT9 := Lib.hid hT9
             clear hT9
             have HCALL := Lib.hid hcall
             clear hcall hlen hT hX hwr
             go_wp2_with fail
             ((with_reducible refine HCALL.out.mono ?_); rintro e w5 ⟨rfl, hw5⟩)
             have HF := Lib.hid (show Below w.heap.size w w5 from HB2.out.trans (hw5.mono HB2.out.size))
             clear hw5
             go_wp2_with fail
             go_ret2
             exact ⟨by rw [HT9.out]; rfl, by have := HF.out; rwa [HG.out] at this⟩
set_option maxRecDepth 20000 in
set_option maxHeartbeats 8000000 in
theorem law_calcTexts (h : Nat) (e : Ex) (w : World) (hx : ExIn w h e) (hd : Deb w) (hp : Pow10 w) (hK : Kd w) (hz : szE e.c ≤ 1048576) :
 Calls Tryz.prog 4 #[xv e] w fun e w' => e = .returned (.bool true) ∧ Below w.heap.size w w' := by
 cases h with
 | zero => exact hx.elim
 | succ h =>
   have h1 := fun w2 (hb : Below w.heap.size w w2) => cText_any h e w2 (hx.below (h + 1) hb) (hd.below hb) hz
   have h2 := fun w2 (hb : Below w.heap.size w w2) => rText_any h e w2 (hx.below (h + 1) hb) (hp.below hb) hz
   have h6 := fun w2 (hb : Below w.heap.size w w2) => awakeK_any w2 (hK.below hb)
   obtain ⟨s, c, hT⟩ : ∃ (s : List UInt8) (c : Int), textO (h + 1) e.c = .tuple #[.string ⟨s.toArray⟩, .int .i64 c] := by
    unfold textO
    split
    · exact ⟨_, _, rfl⟩
    · exact ⟨[], 1, rfl⟩
   simp only [hT] at h1 h2
   obtain ⟨k, n, d, u, oa, b, o, cap, kids⟩ := e
   simp only [xv_mk] at h1 h2 ⊢
   obtain ⟨L, hL⟩ : ∃ L, kids.length = L := ⟨_, rfl⟩
   simp only [hL] at h1 h2 ⊢
   have H1 := Lib.hid h1
   have H2 := Lib.hid h2
   have H6 := Lib.hid h6
   clear h1 h2 h6 hT hx hd hp hK hz hL
   go_enter Tryz.func4, Tryz.ntmps4
   go_upto_region 1 with fail
   have hb1 := below_box w (.cells #[.int .i64 k, .int .i64 n, .int .i64 d, .int .i64 u, .slice oa L cap] 27)
   have hbx := Blk.new w 27 #[.int .i64 k, .int .i64 n, .int .i64 d, .int .i64 u, .slice oa L cap]
   have HB1 := Lib.hid hb1
   have HBX := Lib.hid hbx
   clear hb1
   obtain ⟨g1, hg1⟩ : ∃ g1, w.heap.size = g1 := ⟨_, rfl⟩
   rw [hg1] at hbx HBX
   simp only [hg1]
   clear hg1
   generalize w.alloc _ = w1 at *
   have HC1 := Lib.hid (H1.out w1 HB1.out)
   obtain ⟨cb0, fcb0, cb1, fcb1, cb2, fcb2, cb3, fcb3, cb4, fcb4, lcb⟩ := Blk.five (hbx)
   clear hbx
   go_wp2_with fail
   ((with_reducible refine HC1.out.mono ?_); rintro e w2 ⟨rfl, hb2⟩)
   have HB2 := Lib.hid (below_far HB1.out (grownBy_of_below hb2 none) (fun _ e => by cases e))
   have hbx := HBX.out.below hb2 HBX.out.lt
   have HC2 := Lib.hid (H2.out w2 HB2.out)
   clear hb2 cb0 cb1 cb2 cb3 cb4 fcb0 fcb1 fcb2 fcb3 fcb4 lcb
   obtain ⟨cb0, fcb0, cb1, fcb1, cb2, fcb2, cb3, fcb3, cb4, fcb4, lcb⟩ := Blk.five (hbx)
   clear hbx
   go_wp2_with fail
   ((with_reducible refine HC2.out.mono ?_); rintro e w3 ⟨rfl, hb3⟩)
   have HB3 := Lib.hid (below_far HB2.out (grownBy_of_below hb3 none) (fun _ e => by cases e))
   have HC3 := Lib.hid (H6.out w3 HB3.out)
   clear hb3 cb0 cb1 cb2 cb3 cb4 fcb0 fcb1 fcb2 fcb3 fcb4 lcb
   go_wp2_with fail
   ((with_reducible refine HC3.out.mono ?_); rintro e w4 ⟨rfl, hb4⟩)
   have HB4 := Lib.hid (below_far HB3.out (grownBy_of_below hb4 none) (fun _ e => by cases e))
   clear hb4
   go_wp2_with fail
   go_ret
   exact ⟨ret_bool rfl, HB4.out⟩
end Go.Proofs.YtplnhjmomomphaaGreatDoor
