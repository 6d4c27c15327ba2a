/- Of my texts: TextL, BackR, WalkBack. -/
import Derived.Test.YtplnhjmomomphaaGreatDoorM13
import Derived.Test.YtplnhjmomomphaaGreatDoorM22
import Derived.Test.YtplnhjmomomphaaGreatDoorM33
import Derived.Test.YtplnhjmomomphaaGreatDoorM34
import Derived.Test.YtplnhjmomomphaaGreatDoorM35
import Derived.Test.YtplnhjmomomphaaGreatDoorM36
import Derived.Test.YtplnhjmomomphaaGreatDoorM39
namespace Go.Proofs.YtplnhjmomomphaaGreatDoor
set_option linter.unusedVariables false
set_option linter.unusedSimpArgs false
open Go.RowKit
def writes (h : Nat) (e : Et) : Bool := mayT 340 e && shapeP h false false e
def textO (h : Nat) (e : Et) : Value := if writes h e then .tuple #[.string ⟨(textW h e).toArray⟩, .int .i64 0] else .tuple #[.string ⟨#[]⟩, .int .i64 1]
theorem writes_wr {h : Nat} {e : Et} (hw : writes h e = true) : Wr h e := by
 unfold writes at hw
 rw [Bool.and_eq_true] at hw
 have h2 := hw.2
 rw [shape_same h 340 false false e hw.1] at h2
 simp only [Bool.and_eq_true, decide_eq_true_eq] at h2
 exact ⟨h2.2, ⟨_, hw.1⟩, fun e => absurd (h2.1.1 e) (by decide), fun e => absurd (h2.1.2 e) (by decide)⟩
theorem writes_R (h : Nat) (e : Et) : writes h e = (mayT 340 e && (decide (e.kind ≠ 3) && decide (e.kind ≠ 5) && shapeR h e)) := by
 unfold writes
 cases hm : mayT 340 e with
 | false => rfl
 | true =>
   rw [shape_same h 340 false false e hm]
   by_cases a : e.kind = 3 <;> by_cases b : e.kind = 5 <;> simp [a, b]
theorem textW_par {h : Nat} {e : Et} (hk : e.kind = 2 ∨ e.kind = 4) : textW h e = [99, 97, 108, 99, 40] ++ sumT h e ++ [41] := by
 unfold textW
 rw [if_pos hk]
 simp [calcS]
theorem textW_oper {h : Nat} {e : Et} (hk : ¬ (e.kind = 2 ∨ e.kind = 4)) : textW h e = operX (sumT h) e := by
 unfold textW
 rw [if_neg hk]
theorem perE_le {n : Nat} (h : n ≤ 2097152) : perE * n ≤ 2147483648 := by
 unfold perE
 omega
set_option maxRecDepth 20000 in
set_option maxHeartbeats 8000000 in
theorem cText_any (h : Nat) (e : Ex) (w : World) (hx : ExIn w (h + 1) e) (hd : Deb w) (hz : szE e.c ≤ 2097152) :
 Calls Tryz.prog 8 #[xv e] w fun x w' => x = .returned (textO (h + 1) e.c) ∧ Below w.heap.size w w' := by
 have h1 := fun w2 (hb : Below w.heap.size w w2) => cMay_any (h + 1) e w2 (hx.below (h + 1) hb)
 have h2 := fun w2 (hb : Below w.heap.size w w2) => cshaped_any (h + 1) false false e w2 (hx.below (h + 1) hb) (hd.below hb)
 obtain ⟨WR, hWR⟩ : ∃ x, writes (h + 1) e.c = x := ⟨_, rfl⟩
 have hWR2 := hWR
 unfold writes at hWR2
 have hwr := fun hh : WR = true => writes_wr (hWR.trans hh)
 have hok := okE_of (h + 1) hx
 obtain ⟨M, hM⟩ : ∃ x, mayE 340 e = x := ⟨_, rfl⟩
 have hM2 := hM
 rw [mayE_T] at hM2
 simp only [hM] at h1
 rw [hM2] at hWR2
 obtain ⟨SH, hSH⟩ : ∃ x, shapeP (h + 1) false false e.c = x := ⟨_, rfl⟩
 rw [hSH] at hWR2 h2
 unfold textO
 rw [hWR]
 have HX := Lib.hid hx
 have HD := Lib.hid hd
 have HWR := Lib.hid hwr
 have HZ := Lib.hid (And.intro hz hok)
 have HE := Lib.hid (Eq.refl e)
 obtain ⟨k, n, d, u, oa, bb, o, cap, kids⟩ := e
 simp only [xv_mk] at h1 h2 ⊢
 obtain ⟨L, hL⟩ : ∃ L, kids.length = L := ⟨_, rfl⟩
 simp only [hL] at h1 h2 ⊢
 have H1 := Lib.hid h1
 have H2 := Lib.hid h2
 have HW := Lib.hid hWR2
 have HL := Lib.hid hL
 clear h1 h2 hM hM2 hSH hWR hWR2 hx hd hz hok hwr hL
 cases M with
 | false =>
   obtain rfl : WR = false := by have := HW.out; simpa using this.symm
   go_enter Tryz.func8, Tryz.ntmps8
   go_wp2_with fail
   ((with_reducible refine (H1.out _ (below_box _ _)).mono ?_); rintro e w' ⟨rfl, hbw⟩)
   obtain ⟨m1, rfl⟩ := grow_mk hbw
   clear hbw
   go_wp2_with fail
   go_ret2
   exact ⟨rfl, below_grow (below_box _ _) m1⟩
 | true =>
   go_enter Tryz.func8, Tryz.ntmps8
   go_wp2_with fail
   ((with_reducible refine (H1.out _ (below_box _ _)).mono ?_); rintro e w' ⟨rfl, hbw⟩)
   obtain ⟨m1, rfl⟩ := grow_mk hbw
   clear hbw
   have hb1 := below_grow (below_box w (.cells #[.int .i64 k, .int .i64 n, .int .i64 d, .int .i64 u, .slice oa L cap] 27)) m1
   have hx1 := (Blk.new w 27 #[.int .i64 k, .int .i64 n, .int .i64 d, .int .i64 u, .slice oa L cap]).grow m1
   obtain ⟨g, hg⟩ : ∃ g, w.heap.size = g := ⟨_, rfl⟩
   rw [hg] at hx1
   simp only [hg]
   generalize grow _ m1 = w1 at *
   have HG := Lib.hid hg
   have HB1 := Lib.hid hb1
   have HX1 := Lib.hid hx1
   obtain ⟨ca0, fca0, ca1, fca1, ca2, fca2, ca3, fca3, ca4, fca4, lca⟩ := Blk.five (hx1)
   clear hb1 hg hx1
   go_wp2_with fail
   ((with_reducible refine (H2.out _ HB1.out).mono ?_); rintro e w' ⟨rfl, hbw⟩)
   obtain ⟨m2, rfl⟩ := grow_mk hbw
   clear hbw
   have hb2 := below_grow HB1.out m2
   have hx2 := HX1.out.grow m2
   generalize grow _ m2 = w2 at *
   have HB2 := Lib.hid hb2
   have HX2 := Lib.hid hx2
   clear hb2 ca0 ca1 ca2 ca3 ca4 fca0 fca1 fca2 fca3 fca4 lca
   cases SH with
   | false =>
     obtain rfl : WR = false := by have := HW.out; simpa using this.symm
     clear hx2
     go_wp2_with fail
     go_ret2
     exact ⟨rfl, HB2.out⟩
   | true =>
     obtain rfl : WR = true := by have := HW.out; simpa using this.symm
     have hwr := HWR.out rfl
     obtain ⟨ca0, fca0, ca1, fca1, ca2, fca2, ca3, fca3, ca4, fca4, lca⟩ := Blk.five (hx2)
     clear hx2
     go_upto_region 4 with fail
     have hlt2 := HX2.out.lt
     have HS := Lib.hid (wsum_all w2 (HD.out.below HB2.out))
     have hisw : IsW w2.heap.size w2.heap.size [] (w2.alloc (.cells #[.pointer none, .slice none 0 0] 52)) :=
      Or.inl ⟨Nat.le_refl _, .slice none 0 0, heap_alloc_new w2 _, World.ownsRow_nil _ _ _ _, by simp [Value.ownBlock]⟩
     have hlen := Nat.le_trans (textW_len hwr HZ.out.2) (perE_le HZ.out.1)
     have hne := textW_ne hwr
     have hx3 : Blk (w2.alloc (.cells #[.pointer none, .slice none 0 0] 52)) g 27 #[.int .i64 k, .int .i64 n, .int .i64 d, .int .i64 u, .slice oa L cap] := HX2.out.old _
     have hB3 : w2.heap.size ≤ (w2.alloc (.cells #[.pointer none, .slice none 0 0] 52)).heap.size := (below_box _ _).size
     have HB3 := Lib.hid (below_box w2 (.cells #[.pointer none, .slice none 0 0] 52))
     obtain ⟨gw, hgw⟩ : ∃ gw, w2.heap.size = gw := ⟨_, rfl⟩
     rw [hgw] at hisw hlt2 hB3
     simp only [hgw]
     have HGW := Lib.hid hgw
     clear hgw ca0 ca1 ca2 ca3 ca4 fca0 fca1 fca2 fca3 fca4 lca
     generalize w2.alloc _ = w3 at *
     have HN := Lib.hid (And.intro hlen (And.intro hne (And.intro hB3 (And.intro hlt2 hwr))))
     have HI := Lib.hid hisw
     have HX3 := Lib.hid hx3
     clear hlen hne hB3 hisw hwr
     by_cases hk2 : k = 2
     · subst hk2
       have hx3 := HX3.out
       obtain ⟨ca0, fca0, ca1, fca1, ca2, fca2, ca3, fca3, ca4, fca4, lca⟩ := Blk.five (hx3)
       have hT := textW_par (h := h + 1) (e := (Ex.mk 2 n d u oa bb o cap kids).c) (by rw [Ex.c_mk, kind_mk]; omega)
       have hlen := HN.out.1
       have hne := HN.out.2.1
       have hT9 := hT
       rw [hT] at hlen hne
       simp only [List.length_append, List.length_cons, List.length_nil] at hlen
       have HPUT := Lib.hid (writeString_any gw gw [] [99, 97, 108, 99, 40] w3 HI.out (by simp only [List.length_cons, List.length_nil]; omega) HN.out.2.2.1)
       have hcall := fun wx (hwx : Wb gw gw [99, 97, 108, 99, 40] w3 wx) => HS.out (h + 1) (Ex.mk 2 n d u oa bb o cap kids) gw gw [99, 97, 108, 99, 40] wx ⟨HX.out.below (w' := w2) _ HB2.out, HN.out.2.2.2.2⟩ (Nat.le_of_eq HGW.out) (HB3.out.trans (by rw [HGW.out]; exact hwx.below)) hwx.is (Nat.le_trans HN.out.2.2.1 hwx.below.size) (by simp only [List.length_cons, List.length_nil]; omega)
       rw [xv_mk, HL.out] at hcall
       obtain ⟨X, hX⟩ : ∃ X, sumT (h + 1) (Ex.mk 2 n d u oa bb o cap kids).c = X := ⟨_, rfl⟩
       rw [hX] at hcall hlen hne hT9
       have HT9 := Lib.hid hT9
       clear hT9
       have HCALL := Lib.hid hcall
       have HNE := Lib.hid (And.intro hlen hne)
       clear hcall hlen hne hT hX hx3
       go_wp2_with fail
       ((with_reducible refine HPUT.out.mono ?_); rintro e w4 ⟨rfl, hw4⟩)
       have HW4 := Lib.hid hw4
       have hx4 := HX3.out.below hw4.below hlt2
       obtain ⟨cb0, fcb0, cb1, fcb1, cb2, fcb2, cb3, fcb3, cb4, fcb4, lcb⟩ := Blk.five (hx4)
       have hc4 := HCALL.out w4 hw4
       have HC4 := Lib.hid hc4
       clear hw4 hc4 hx4
       go_wp2_with fail
       ((with_reducible refine HC4.out.mono ?_); rintro e w5 ⟨rfl, hw5⟩)
       have HW5 := Lib.hid (HW4.out.trans hw5)
       have HP5 := Lib.hid (writeString_any gw gw ([99, 97, 108, 99, 40] ++ X) [41] w5 hw5.is (by have := HNE.out.1; simp only [List.length_append, List.length_cons, List.length_nil]; omega) (Nat.le_trans HN.out.2.2.1 HW5.out.below.size))
       clear hw5
       go_wp2_with fail
       ((with_reducible refine HP5.out.mono ?_); rintro e w6 ⟨rfl, hw6⟩)
       have HW6 := Lib.hid (HW5.out.trans hw6)
       have HST := Lib.hid (builderString_some gw gw _ w6 hw6.is HNE.out.2)
       clear hw6
       go_wp2_with fail
       ((with_reducible refine HST.out.mono ?_); rintro e w7 ⟨rfl, hw7⟩)
       have HF := Lib.hid (show Below w.heap.size w w7 from HB2.out.trans (Below.mono (HB3.out.trans (by rw [HGW.out]; exact HW6.out.below.trans hw7)) (by have := HB2.out.size; omega)))
       clear hw7
       go_wp2_with fail
       go_ret2
       exact ⟨by rw [HT9.out]; rfl, by have := HF.out; rwa [HG.out] at this⟩
     · by_cases hk4 : k = 4
       · subst hk4
         have hx3 := HX3.out
         obtain ⟨ca0, fca0, ca1, fca1, ca2, fca2, ca3, fca3, ca4, fca4, lca⟩ := Blk.five (hx3)
         have hT := textW_par (h := h + 1) (e := (Ex.mk 4 n d u oa bb o cap kids).c) (by rw [Ex.c_mk, kind_mk]; omega)
         have hlen := HN.out.1
         have hne := HN.out.2.1
         have hT9 := hT
         rw [hT] at hlen hne
         simp only [List.length_append, List.length_cons, List.length_nil] at hlen
         have HPUT := Lib.hid (writeString_any gw gw [] [99, 97, 108, 99, 40] w3 HI.out (by simp only [List.length_cons, List.length_nil]; omega) HN.out.2.2.1)
         have hcall := fun wx (hwx : Wb gw gw [99, 97, 108, 99, 40] w3 wx) => HS.out (h + 1) (Ex.mk 4 n d u oa bb o cap kids) gw gw [99, 97, 108, 99, 40] wx ⟨HX.out.below (w' := w2) _ HB2.out, HN.out.2.2.2.2⟩ (Nat.le_of_eq HGW.out) (HB3.out.trans (by rw [HGW.out]; exact hwx.below)) hwx.is (Nat.le_trans HN.out.2.2.1 hwx.below.size) (by simp only [List.length_cons, List.length_nil]; omega)
         rw [xv_mk, HL.out] at hcall
         obtain ⟨X, hX⟩ : ∃ X, sumT (h + 1) (Ex.mk 4 n d u oa bb o cap kids).c = X := ⟨_, rfl⟩
         rw [hX] at hcall hlen hne hT9
         have HT9 := Lib.hid hT9
         clear hT9
         have HCALL := Lib.hid hcall
         have HNE := Lib.hid (And.intro hlen hne)
         clear hcall hlen hne hT hX hx3
         go_wp2_with fail
         ((with_reducible refine HPUT.out.mono ?_); rintro e w4 ⟨rfl, hw4⟩)
         have HW4 := Lib.hid hw4
         have hx4 := HX3.out.below hw4.below hlt2
         obtain ⟨cb0, fcb0, cb1, fcb1, cb2, fcb2, cb3, fcb3, cb4, fcb4, lcb⟩ := Blk.five (hx4)
         have hc4 := HCALL.out w4 hw4
         have HC4 := Lib.hid hc4
         clear hw4 hc4 hx4
         go_wp2_with fail
         ((with_reducible refine HC4.out.mono ?_); rintro e w5 ⟨rfl, hw5⟩)
         have HW5 := Lib.hid (HW4.out.trans hw5)
         have HP5 := Lib.hid (writeString_any gw gw ([99, 97, 108, 99, 40] ++ X) [41] w5 hw5.is (by have := HNE.out.1; simp only [List.length_append, List.length_cons, List.length_nil]; omega) (Nat.le_trans HN.out.2.2.1 HW5.out.below.size))
         clear hw5
         go_wp2_with fail
         ((with_reducible refine HP5.out.mono ?_); rintro e w6 ⟨rfl, hw6⟩)
         have HW6 := Lib.hid (HW5.out.trans hw6)
         have HST := Lib.hid (builderString_some gw gw _ w6 hw6.is HNE.out.2)
         clear hw6
         go_wp2_with fail
         ((with_reducible refine HST.out.mono ?_); rintro e w7 ⟨rfl, hw7⟩)
         have HF := Lib.hid (show Below w.heap.size w w7 from HB2.out.trans (Below.mono (HB3.out.trans (by rw [HGW.out]; exact HW6.out.below.trans hw7)) (by have := HB2.out.size; omega)))
         clear hw7
         go_wp2_with fail
         go_ret2
         exact ⟨by rw [HT9.out]; rfl, by have := HF.out; rwa [HG.out] at this⟩
       · have gk2 : (k == 2) = false := by simpa using hk2
         have gk4 : (k == 4) = false := by simpa using hk4
         have hx3 := HX3.out
         obtain ⟨ca0, fca0, ca1, fca1, ca2, fca2, ca3, fca3, ca4, fca4, lca⟩ := Blk.five (hx3)
         have hT := textW_oper (h := h + 1) (e := (Ex.mk k n d u oa bb o cap kids).c) (by rw [Ex.c_mk, kind_mk]; omega)
         have hlen := HN.out.1
         have hne := HN.out.2.1
         have hT9 := hT
         rw [hT] at hlen hne
         have hcall := woper_step w2 (h + 1) (HD.out.below HB2.out) (HS.out (h + 1)) (Ex.mk k n d u oa bb o cap kids) gw gw [] w3 ⟨ExIn.mono _ _ (Nat.le_succ _) (HX.out.below (w' := w2) _ HB2.out), HN.out.2.2.2.2.more, fun hh => absurd hh (by rw [Ex.c_mk, kind_mk]; omega)⟩ (Nat.le_of_eq HGW.out) HB3.out HI.out HN.out.2.2.1 (by rw [List.length_nil]; omega)
         rw [xv_mk, HL.out, List.nil_append] at hcall
         obtain ⟨X, hX⟩ : ∃ X, operX (sumT (h + 1)) (Ex.mk k n d u oa bb o cap kids).c = X := ⟨_, rfl⟩
         rw [hX] at hcall hlen hne hT9
         have HT9 := Lib.hid hT9
         clear hT9
         have HCALL := Lib.hid hcall
         have HNE := Lib.hid (And.intro hlen hne)
         clear hcall hlen hne hT hX hx3 hk2 hk4
         go_wp2_with fail
         ((with_reducible refine HCALL.out.mono ?_); rintro e w6 ⟨rfl, hw6⟩)
         have HW6 := Lib.hid hw6
         have HST := Lib.hid (builderString_some gw gw _ w6 hw6.is HNE.out.2)
         clear hw6
         go_wp2_with fail
         ((with_reducible refine HST.out.mono ?_); rintro e w7 ⟨rfl, hw7⟩)
         have HF := Lib.hid (show Below w.heap.size w w7 from HB2.out.trans (Below.mono (HB3.out.trans (by rw [HGW.out]; exact HW6.out.below.trans hw7)) (by have := HB2.out.size; omega)))
         clear hw7
         go_wp2_with fail
         go_ret2
         exact ⟨by rw [HT9.out]; rfl, by have := HF.out; rwa [HG.out] at this⟩
end Go.Proofs.YtplnhjmomomphaaGreatDoor

namespace Go.Proofs.YtplnhjmomomphaaGreatDoor
set_option linter.unusedVariables false
set_option linter.unusedSimpArgs false
open Go.RowKit
theorem bfH {w0 w w' : World} (h : Hid (Below w0.heap.size w0 w)) (hb : Below w.heap.size w w') : Hid (Below w0.heap.size w0 w') := Lib.hid (below_far h.out (grownBy_of_below hb none) fun _ e => by cases e)
theorem box_new (w : World) (t : TypeId) (cs : Array Value) : Blk (w.alloc (.cells cs t)) w.heap.size t cs ∧ Below w.heap.size w (w.alloc (.cells cs t)) := ⟨Blk.new w t cs, below_box w (.cells cs t)⟩
theorem writes_num (n d : Int) : writes 1 (.mk 1 n d 0 []) = numOk (n, d) := by
 unfold writes
 have h1 : mayT 340 (.mk 1 n d 0 []) = mayB (n, d) := by
  rw [mayT, if_pos rfl]
  simp
 have h2 : shapeP 1 false false (.mk 1 n d 0 []) = numOk (n, d) := by
  rw [shapeP_L, if_pos rfl]
  rfl
 rw [h1, h2]
 cases hn : numOk (n, d) with
 | false => simp
 | true => rw [numOk_may hn]; rfl
set_option maxRecDepth 20000 in
set_option maxHeartbeats 4000000 in
theorem ltext_any (n d : Int) (w : World) (h64 : Is64 (n, d)) (hd : Deb w) :
 Calls Tryz.prog 22 #[.agg #[.int .i64 n, .int .i64 d]] w fun e w' => e = .returned (.bool (numOk (n, d))) ∧ Below w.heap.size w w' := by
 have hb1 := below_box w (.cells #[.int .i64 n, .int .i64 d] 24)
 have hx1 := Blk.new w 24 #[.int .i64 n, .int .i64 d]
 have hex : ExIn (w.alloc (.cells #[.int .i64 n, .int .i64 d] 24)) 1 (.mk 1 n d 0 none 0 0 0 []) :=
  ⟨by unfold I64; omega, h64, by unfold I64; omega, Nat.le_refl _, Nat.zero_le _, by simp, fun h => absurd h (by simp), fun i x h => by simp at h⟩
 have hc := cText_any 0 (.mk 1 n d 0 none 0 0 0 []) _ hex (hd.below hb1) (by rw [Ex.c_mk, szE_mk]; simp [szEs])
 have hT : textO (0 + 1) (Ex.mk 1 n d 0 none 0 0 0 []).c = (if numOk (n, d) = true then .tuple #[.string ⟨(textW 1 (.mk 1 n d 0 [])).toArray⟩, .int .i64 0] else .tuple #[.string ⟨#[]⟩, .int .i64 1]) := by
  unfold textO
  rw [Ex.c_mk]
  show (if writes 1 (.mk 1 n d 0 []) = true then _ else _) = _
  rw [writes_num]
  rfl
 rw [hT, xv_mk, List.length_nil] at hc
 obtain ⟨s, c, hP, hc0⟩ : ∃ (s : List UInt8) (c : Int), (if numOk (n, d) = true then Value.tuple #[.string ⟨(textW 1 (.mk 1 n d 0 [])).toArray⟩, .int .i64 0] else .tuple #[.string ⟨#[]⟩, .int .i64 1]) = .tuple #[.string ⟨s.toArray⟩, .int .i64 c] ∧ (c == 0) = numOk (n, d) := by
  cases numOk (n, d) with
  | true => exact ⟨_, 0, rfl, rfl⟩
  | false => exact ⟨[], 1, rfl, rfl⟩
 rw [hP] at hc
 have HC := Lib.hid hc
 have HB := Lib.hid hb1
 have HC0 := Lib.hid hc0
 clear hc hb1 hc0 hP hT hex h64 hd
 go_enter Tryz.func22, Tryz.ntmps22
 go_wp2_with fail
 ((with_reducible refine HC.out.mono ?_); rintro e w2 ⟨rfl, hb2⟩)
 have HF := bfH HB hb2
 clear hb2
 go_wp2_with fail
 go_ret
 exact ⟨ret_bool HC0.out, HF.out⟩
theorem plains_drop {l : List Vt} {i : Nat} {v : Vt} (h : l.drop i = v :: l.drop (i + 1)) : plainsV (l.drop i) = (plain1 v && plainsV (l.drop (i + 1))) := by
 rw [h, plainsV]
def PlainAt (h : Nat) : Prop := ∀ (l : List Vl) (oa : Option Addr) (cap b o : Nat) (w : World), VsIn w h oa cap b o l → Deb w →
 Calls Tryz.prog 10 #[.slice oa l.length cap] w fun e w' => e = .returned (.bool (plainsV (l.map Vl.c))) ∧ Below w.heap.size w w'
set_option maxRecDepth 20000 in
set_option maxHeartbeats 8000000 in
theorem plain_step (h : Nat) (ih : ∀ h', h = h' + 1 → PlainAt h') : PlainAt h := by
 intro l oa cap b o w hs hd
 have hcm := hs.sl.max
 have hcl := hs.sl.le
 have hsm := hs.small
 unfold maxLen at hcm
 have HIH := Lib.hid ih
 have HS := Lib.hid hs
 have HD := Lib.hid hd
 obtain ⟨K, hK⟩ : ∃ K, plainsV (l.map Vl.c) = K := ⟨_, rfl⟩
 have HK0 := Lib.hid (show K = plainsV ((l.map Vl.c).drop 0) from hK.symm)
 rw [hK]
 obtain ⟨N, hN⟩ : ∃ N, l.length = N := ⟨_, rfl⟩
 rw [hN] at hsm ⊢
 have HN := Lib.hid hN
 clear ih hs hd hK hN hcl
 have hN63 : N ≤ 9223372036854775807 := by omega
 clear hsm hcm
 go_enter Tryz.func10, Tryz.ntmps10
 go_wp2_with fail
 go_loopg [7] N (fun q s7 wr => ∃ (i : Nat), s7 = .int .i64 i ∧ Hid (Below w.heap.size w wr) ∧ i ≤ N ∧ Hid (K = plainsV ((l.map Vl.c).drop i)) ∧ N - i ≤ q)
 case atStart => exact ⟨0, rfl, Lib.hid (Below.refl _ _), Nat.zero_le _, HK0, by omega⟩
 case round =>
  obtain ⟨i, rfl, hb, hle, hY, hq⟩ := hrel
  by_cases hi : i < N
  · have gi : decide ((i : Int) < (N : Int)) = true := by simpa using hi
    have gin : decide (i < N) = true := by simpa using hi
    have hil : i < l.length := by rw [HN.out]; exact hi
    have hli : l[i]? = some l[i] := List.getElem?_eq_getElem hil
    have hvs := HS.out.below hb.out
    obtain ⟨rfl, hbl⟩ := hvs.sl.lies (by rw [HN.out]; omega)
    have hdr : (l.map Vl.c).drop i = l[i].c :: (l.map Vl.c).drop (i + 1) := by
     rw [← List.map_drop, List.drop_eq_getElem_cons hil, List.map_cons, List.map_drop]
    have hin := hvs.each i _ hli
    obtain ⟨x, hx⟩ : ∃ x, l[i] = x := ⟨_, rfl⟩
    rw [hx] at hli hdr hin
    have hlaw := hY.out
    rw [plains_drop hdr] at hlaw
    obtain ⟨t, koa, kb, ko, kcap, kids⟩ := x
    obtain ⟨KL, hKL⟩ : ∃ K, kids.length = K := ⟨_, rfl⟩
    have f0 := hvs.cell hli (j := 0) rfl
    have f1 := hvs.cell hli (j := 1) rfl
    have f2 := hvs.cell hli (j := 2) rfl
    have f3 := hvs.cell hli (j := 3) rfl
    have f4 := hvs.cell hli (j := 4) rfl
    have f5 := hvs.cell hli (j := 5) rfl
    have f6 := hvs.cell hli (j := 6) rfl
    rw [Nat.add_zero] at f0
    rw [hKL] at f6
    obtain ⟨tk, tt, ⟨tn, td⟩, ti, tid⟩ := t
    rw [Vl.c_mk, plain1_mk] at hlaw
    -- what is called
    have hkids : ∀ w2, Below wr.heap.size wr w2 → Calls Tryz.prog 10 #[.slice koa KL kcap] w2 fun e w' => e = .returned (.bool (plainsV (kids.map Vl.c))) ∧ Below w2.heap.size w2 w' := fun w2 hb2 => by
     cases h with
     | zero => exact hin.elim
     | succ h =>
       have hkid : VsIn wr h koa kcap kb ko kids := ⟨hin.2.1, hin.2.2.1, hin.2.2.2⟩
       have := HIH.out h rfl kids koa kcap kb ko w2 (hkid.below hb2) (HD.out.below ((bfH hb hb2).out))
       rwa [hKL] at this
    have h64 : Is64 (tn, td) := by
     cases h with
     | zero => exact hin.elim
     | succ h => exact hin.1.2.1
    have htext := fun w2 (hb2 : Below wr.heap.size wr w2) => ltext_any tn td w2 h64 (HD.out.below ((bfH hb hb2).out))
    obtain ⟨M, hM⟩ : ∃ M, plainsV (kids.map Vl.c) = M := ⟨_, rfl⟩
    obtain ⟨O, hO⟩ : ∃ O, numOk (tn, td) = O := ⟨_, rfl⟩
    rw [hM] at hkids hlaw
    simp only [hO] at htext hlaw
    have HKD := Lib.hid hkids
    have HTX := Lib.hid htext
    have HLW := Lib.hid hlaw
    clear hkids htext hlaw hM hO h64 hin hli hil hx hdr hvs hKL
    go_upto_region 4 with fail
    have HB7 := Lib.hid (below_box wr (.cells #[.int .i64 tk, .string ⟨tt.toArray⟩, .int .i64 tn, .int .i64 td, .bool ti, .bool tid, .slice koa KL kcap] 44))
    have hx7 := Blk.new wr 44 #[.int .i64 tk, .string ⟨tt.toArray⟩, .int .i64 tn, .int .i64 td, .bool ti, .bool tid, .slice koa KL kcap]
    obtain ⟨g7, hg7⟩ : ∃ g7, wr.heap.size = g7 := ⟨_, rfl⟩
    rw [hg7] at hx7
    simp only [hg7]
    clear hg7 f0 f1 f2 f3 f4 f5 f6
    generalize wr.alloc _ = w7 at *
    have cg0 : w7.cell? ⟨g7, 0, none⟩ = some (.int .i64 tk) := (hx7).cell 0
    have fcg0 := (hx7).frozen 0
    have cg1 : w7.cell? ⟨g7, 1, none⟩ = some (.string ⟨tt.toArray⟩) := (hx7).cell 1
    have fcg1 := (hx7).frozen 1
    have cg2 : w7.cell? ⟨g7, 2, none⟩ = some (.int .i64 tn) := (hx7).cell 2
    have fcg2 := (hx7).frozen 2
    have cg3 : w7.cell? ⟨g7, 3, none⟩ = some (.int .i64 td) := (hx7).cell 3
    have fcg3 := (hx7).frozen 3
    have cg4 : w7.cell? ⟨g7, 4, none⟩ = some (.bool ti) := (hx7).cell 4
    have fcg4 := (hx7).frozen 4
    have cg5 : w7.cell? ⟨g7, 5, none⟩ = some (.bool tid) := (hx7).cell 5
    have fcg5 := (hx7).frozen 5
    have cg6 : w7.cell? ⟨g7, 6, none⟩ = some (.slice koa KL kcap) := (hx7).cell 6
    have fcg6 := (hx7).frozen 6
    have lcg := (hx7).lt
    have HX7 := Lib.hid hx7
    clear hx7
    have fin : ∀ wx, Below wr.heap.size wr wx → Below w.heap.size w wx := fun wx hx => (bfH hb hx).out
    have HFIN := Lib.hid fin
    clear fin
    by_cases hk : tk = 10 ∨ tk = 12
    · have HLW2 := Lib.hid (show K = (O && M && plainsV ((l.map Vl.c).drop (i + 1))) from by have := HLW.out; rwa [if_pos hk] at this)
      cases O with
      | false =>
        have hK0 := Lib.hid (show K = false from by have := HLW2.out; simpa using this)
        rcases hk with rfl | rfl
        all_goals
         go_wp2_with fail
         ((with_reducible refine (HTX.out _ HB7.out).mono ?_); rintro e w8 ⟨rfl, hb8⟩)
         have HB8 := Lib.hid (HFIN.out _ (HB7.out.trans (hb8.mono HB7.out.size)))
         clear hb8
         go_wp2_with fail
         go_ret
         exact ⟨ret_bool hK0.out.symm, HB8.out⟩
      | true =>
        have HTX2 := Lib.hid (HTX.out _ HB7.out)
        rcases hk with rfl | rfl
        all_goals
         go_wp2_with fail
         ((with_reducible refine HTX2.out.mono ?_); rintro e w8 ⟨rfl, hb8⟩)
         have HB8 := Lib.hid (HB7.out.trans (hb8.mono HB7.out.size))
         have hx8 := HX7.out.below hb8 HX7.out.lt
         have ch0 : w8.cell? ⟨g7, 0, none⟩ = some (.int .i64 _) := (hx8).cell 0
         have fch0 := (hx8).frozen 0
         have ch1 : w8.cell? ⟨g7, 1, none⟩ = some (.string ⟨tt.toArray⟩) := (hx8).cell 1
         have fch1 := (hx8).frozen 1
         have ch2 : w8.cell? ⟨g7, 2, none⟩ = some (.int .i64 tn) := (hx8).cell 2
         have fch2 := (hx8).frozen 2
         have ch3 : w8.cell? ⟨g7, 3, none⟩ = some (.int .i64 td) := (hx8).cell 3
         have fch3 := (hx8).frozen 3
         have ch4 : w8.cell? ⟨g7, 4, none⟩ = some (.bool ti) := (hx8).cell 4
         have fch4 := (hx8).frozen 4
         have ch5 : w8.cell? ⟨g7, 5, none⟩ = some (.bool tid) := (hx8).cell 5
         have fch5 := (hx8).frozen 5
         have ch6 : w8.cell? ⟨g7, 6, none⟩ = some (.slice koa KL kcap) := (hx8).cell 6
         have fch6 := (hx8).frozen 6
         have lch := (hx8).lt
         clear hb8 hx8
         have HC9 := Lib.hid (HKD.out _ HB8.out)
         go_wp2_with fail
         ((with_reducible refine HC9.out.mono ?_); rintro e w9 ⟨rfl, hb9⟩)
         have HB9 := Lib.hid (HFIN.out _ (HB8.out.trans (hb9.mono HB8.out.size)))
         clear hb9
         cases M with
         | false =>
           have hK0 := Lib.hid (show K = false from by have := HLW2.out; simpa using this)
           go_wp2_with fail
           go_ret
           exact ⟨ret_bool hK0.out.symm, HB9.out⟩
         | true =>
           go_wp2_with fail
           go_roundg (N - (i + 1))
           case measure => omega
           case rel => exact ⟨i + 1, by go_num, HB9, hi, Lib.hid (by have := HLW2.out; simpa using this), Nat.le_refl _⟩
    · have g10 : (tk == 10) = false := by simp; omega
      have g12 : (tk == 12) = false := by simp; omega
      have HLW2 := Lib.hid (show K = (M && plainsV ((l.map Vl.c).drop (i + 1))) from by have := HLW.out; rwa [if_neg hk, Bool.true_and] at this)
      clear hk
      have HC9 := Lib.hid (HKD.out _ HB7.out)
      go_wp2_with fail
      ((with_reducible refine HC9.out.mono ?_); rintro e w9 ⟨rfl, hb9⟩)
      have HB9 := Lib.hid (HFIN.out _ (HB7.out.trans (hb9.mono HB7.out.size)))
      clear hb9
      cases M with
      | false =>
        have hK0 := Lib.hid (show K = false from by have := HLW2.out; simpa using this)
        go_wp2_with fail
        go_ret
        exact ⟨ret_bool hK0.out.symm, HB9.out⟩
      | true =>
        go_wp2_with fail
        go_roundg (N - (i + 1))
        case measure => omega
        case rel => exact ⟨i + 1, by go_num, HB9, hi, Lib.hid (by have := HLW2.out; simpa using this), Nat.le_refl _⟩
  · obtain rfl : i = N := by omega
    have gi : decide ((i : Int) < (i : Int)) = false := by simp
    have gin : decide (i < i) = false := by simp
    have hKf : K = true := by
     rw [hY.out, List.drop_eq_nil_of_le (by rw [List.length_map, HN.out]; exact Nat.le_refl _), plainsV]
    have HKf := Lib.hid hKf
    clear hKf hY
    go_wp2_with fail
    go_ret
    exact ⟨ret_bool HKf.out.symm, hb.out⟩
theorem plain_all : ∀ h, PlainAt h
 | 0 => plain_step 0 fun _ h => by cases h
 | h + 1 => plain_step (h + 1) fun h' e => by
   obtain rfl : h = h' := by omega
   exact plain_all h
end Go.Proofs.YtplnhjmomomphaaGreatDoor

namespace Go.Proofs.YtplnhjmomomphaaGreatDoor
set_option linter.unusedVariables false
set_option linter.unusedSimpArgs false
open Go.RowKit
theorem parse_two (h : Nat) (l : List Vt) : (∃ q : Int, (q = 1 ∨ q = 3) ∧ parseF wholeP h l = (none, q)) ∨ ∃ e, parseF wholeP h l = (some e, 0) := by
 unfold parseF
 split
 · exact Or.inl ⟨1, Or.inl rfl, rfl⟩
 · split
   · split
     · exact Or.inl ⟨3, Or.inr rfl, rfl⟩
     · exact Or.inr ⟨_, rfl⟩
   · exact Or.inl ⟨3, Or.inr rfl, rfl⟩
theorem back_writes {h g : Nat} {l : List Vt} {x : Ex} {w : World} (hp : parseF wholeP h l = (some x.c, 0)) (hx : ExIn w g x) (hw : writes g x.c = false) : plainsV l = false := by
 obtain ⟨h1, h2, _, h4⟩ := parse_from hp
 cases hP : plainsV l with
 | false => rfl
 | true =>
   rw [writes_R, h1, shape_in _ _ _ _ hx (h4 hP)] at hw
   simp [h2.1, h2.2] at hw
theorem back_again {h g : Nat} {l : List Vt} {x : Ex} {w : World} (hp : parseF wholeP h l = (some x.c, 0)) (hx : ExIn w g x) (hw : writes g x.c = true) {h2 : Nat} {l2 : List Vl} {w2 : World} {oa : Option Addr} {b o cap : Nat} (hc : l2.map Vl.c = valuesF (bytesF (textW g x.c))) (hv : VsIn w2 h2 oa cap b o l2) : parseF wholeP h2 (l2.map Vl.c) = (some x.c, 0) := by
 have hwr := writes_wr hw
 have hv1 := (values_text hwr (okE_of g hx)).1
 rw [hc, hv1]
 refine read_again hp hwr ?_
 rw [← hv1, ← hc]
 exact dep_in h2 l2 w2 hv.each
theorem back_len {g : Nat} {x : Ex} {w : World} (hx : ExIn w g x) (hw : writes g x.c = true) (hz : szE x.c ≤ 2097152) : (textW g x.c).length ≤ 4294967296 := by
 have := textW_len (writes_wr hw) (okE_of g hx)
 have := perE_le hz
 omega
set_option maxRecDepth 20000 in
set_option maxHeartbeats 8000000 in
theorem law_calcBack (h : Nat) (l : List Vl) (oa : Option Addr) (cap b o : Nat) (w : World) (hs : VsIn w h oa cap b o l) (hd : Deb w) (hK : Kd w) (hz : szV (l.map Vl.c) ≤ 1048576) :
 Calls Tryz.prog 3 #[.slice oa l.length cap] w fun e w' => e = .returned (.bool true) ∧ Below w.heap.size w w' := by
 have h1 := cparse_any h l oa cap b o w hs
 have hP := fun w2 (hb : Below w.heap.size w w2) => plain_all h l oa cap b o w2 (hs.below hb) (hd.below hb)
 have hA := fun w2 (hb : Below w.heap.size w w2) => awakeK_any w2 (hK.below hb)
 have HOLD := Lib.hid (show Deb w ∧ Kd w from ⟨hd, hK⟩)
 have hcl := hs.sl.le
 have hcm := hs.sl.max
 unfold maxLen at hcm
 obtain ⟨X, hX⟩ : ∃ X, l.map Vl.c = X := ⟨_, rfl⟩
 obtain ⟨N, hN⟩ : ∃ N, l.length = N := ⟨_, rfl⟩
 simp only [hX, hN] at h1 hP hcl hz ⊢
 have HA := Lib.hid hA
 have HP := Lib.hid hP
 have HZ := Lib.hid hz
 clear hs hd hK hz hA hP hX hN
 rcases parse_two h X with ⟨q, hq, hp⟩ | ⟨E, hp⟩
 · rw [hp] at h1
   have H1 := Lib.hid h1
   clear h1 hp HP HZ HOLD
   go_enter Tryz.func3, Tryz.ntmps3
   go_wp2_with fail
   (refine H1.out.mono ?_; rintro e w2 ⟨⟨ev, rfl, hx⟩, hb2⟩)
   obtain ⟨ak, an, ad, au, aoa, aL, ac, rfl⟩ := hx.e5
   have HX2 := Lib.hid hx
   have HB2 := Lib.hid hb2
   clear hx hb2 H1
   go_upto_region 2 with fail
   obtain ⟨h3, hb3⟩ := box_new w2 27 #[.int .i64 ak, .int .i64 an, .int .i64 ad, .int .i64 au, .slice aoa aL ac]
   have HX3 := Lib.hid (HX2.out.below hb3)
   have HB3 := bfH HB2 hb3
   clear hb3 HX2 HB2
   generalize w2.heap.size = g3 at *
   generalize w2.alloc _ = w3 at *
   have HS3 := Lib.hid (rsame_is HX3.out (zero_ex (· < 0) w3))
   have ca0 : w3.cell? ⟨g3, 0, none⟩ = some (.int .i64 ak) := (h3).cell 0
   have fca0 := (h3).frozen 0
   have ca1 : w3.cell? ⟨g3, 1, none⟩ = some (.int .i64 an) := (h3).cell 1
   have fca1 := (h3).frozen 1
   have ca2 : w3.cell? ⟨g3, 2, none⟩ = some (.int .i64 ad) := (h3).cell 2
   have fca2 := (h3).frozen 2
   have ca3 : w3.cell? ⟨g3, 3, none⟩ = some (.int .i64 au) := (h3).cell 3
   have fca3 := (h3).frozen 3
   have ca4 : w3.cell? ⟨g3, 4, none⟩ = some (.slice aoa aL ac) := (h3).cell 4
   have fca4 := (h3).frozen 4
   have lca := (h3).lt
   clear h3 HX3
   rcases hq with rfl | rfl
   all_goals
    go_wp2_with fail
    (refine HS3.out.mono ?_; rintro e w6 ⟨rfl, hb6⟩)
    have HB6 := bfH HB3 hb6
    have HA6 := Lib.hid (HA.out w6 HB6.out)
    clear hb6
    go_wp2_with fail
    (refine HA6.out.mono ?_; rintro e w7 ⟨rfl, hb7⟩)
    have HB7 := bfH HB6 hb7
    clear hb7
    go_wp2_with fail
    go_ret
    exact ⟨ret_bool rfl, HB7.out⟩
 · have HPE := Lib.hid hp
   rw [hp] at h1
   have H1 := Lib.hid h1
   clear h1 hp
   go_enter Tryz.func3, Tryz.ntmps3
   go_wp2_with fail
   (refine H1.out.mono ?_; rintro e w2 ⟨⟨ev, rfl, hx⟩, hb2⟩)
   have HX2 := Lib.hid hx
   obtain ⟨x, g, rfl, hxc, hxs⟩ := hx
   replace hxc : x.c = E := hxc
   subst hxc
   cases g with
   | zero => exact hxs.here.elim
   | succ g =>
   have hsz : szE x.c ≤ 2097152 := by
    have := parse_size HPE.out
    have := HZ.out
    omega
   have hxi := hxs.here
   have HT := Lib.hid (fun w4 (hb : Below w.heap.size w w4) (hb2' : Below w2.heap.size w2 w4) => cText_any g x w4 (hxi.below (g + 1) hb2') (HOLD.out.1.below hb) hsz)
   have HM := Lib.hid (fun w4 (hb2' : Below w2.heap.size w2 w4) => cMay_any (g + 1) x w4 (hxi.below (g + 1) hb2'))
   have hmay : mayE 340 x = true := by rw [mayE_T]; exact (parse_from HPE.out).1
   simp only [hmay] at HM
   obtain ⟨ak, an, ad, au, aoa, aL, ac, hxv⟩ : isE5 (xv x) := isE5_xv x
   rw [hxv] at HX2 HT HM ⊢
   have HB2 := Lib.hid hb2
   have HXI := Lib.hid hxi
   have HSZ := Lib.hid hsz
   clear hb2 H1 hxi hsz hxs hmay hxv
   go_upto_region 2 with fail
   obtain ⟨h3, hb3⟩ := box_new w2 27 #[.int .i64 ak, .int .i64 an, .int .i64 ad, .int .i64 au, .slice aoa aL ac]
   have HX3 := Lib.hid (HX2.out.below hb3)
   have HB3 := bfH HB2 hb3
   have HB23 := Lib.hid hb3
   have H33 := Lib.hid h3
   obtain ⟨g3, hg3⟩ : ∃ g3, w2.heap.size = g3 := ⟨_, rfl⟩
   rw [hg3] at h3 H33
   simp only [hg3]
   clear hb3 HX2 hg3
   generalize w2.alloc _ = w3 at *
   have HT3 := Lib.hid (HT.out w3 HB3.out HB23.out)
   have ca0 : w3.cell? ⟨g3, 0, none⟩ = some (.int .i64 ak) := (h3).cell 0
   have fca0 := (h3).frozen 0
   have ca1 : w3.cell? ⟨g3, 1, none⟩ = some (.int .i64 an) := (h3).cell 1
   have fca1 := (h3).frozen 1
   have ca2 : w3.cell? ⟨g3, 2, none⟩ = some (.int .i64 ad) := (h3).cell 2
   have fca2 := (h3).frozen 2
   have ca3 : w3.cell? ⟨g3, 3, none⟩ = some (.int .i64 au) := (h3).cell 3
   have fca3 := (h3).frozen 3
   have ca4 : w3.cell? ⟨g3, 4, none⟩ = some (.slice aoa aL ac) := (h3).cell 4
   have fca4 := (h3).frozen 4
   have lca := (h3).lt
   clear h3 HT
   cases hW : writes (g + 1) x.c with
   | false =>
     have hpl := back_writes HPE.out HXI.out hW
     unfold textO at HT3
     rw [if_neg (by rw [hW]; decide)] at HT3
     simp only [hpl] at HP
     clear hpl hW
     go_wp2_with fail
     (refine HT3.out.mono ?_; rintro e w4 ⟨rfl, hb4⟩)
     have HB4 := bfH HB3 hb4
     have HB24 := bfH HB23 hb4
     have h4 := H33.out.below hb4 H33.out.lt
     clear hb4 HT3 ca0 ca1 ca2 ca3 ca4 fca0 fca1 fca2 fca3 fca4 lca
     have ca0 : w4.cell? ⟨g3, 0, none⟩ = some (.int .i64 ak) := (h4).cell 0
     have fca0 := (h4).frozen 0
     have ca1 : w4.cell? ⟨g3, 1, none⟩ = some (.int .i64 an) := (h4).cell 1
     have fca1 := (h4).frozen 1
     have ca2 : w4.cell? ⟨g3, 2, none⟩ = some (.int .i64 ad) := (h4).cell 2
     have fca2 := (h4).frozen 2
     have ca3 : w4.cell? ⟨g3, 3, none⟩ = some (.int .i64 au) := (h4).cell 3
     have fca3 := (h4).frozen 3
     have ca4 : w4.cell? ⟨g3, 4, none⟩ = some (.slice aoa aL ac) := (h4).cell 4
     have fca4 := (h4).frozen 4
     have lca := (h4).lt
     clear h4
     have HM4 := Lib.hid (HM.out w4 HB24.out)
     go_wp2_with fail
     (refine HM4.out.mono ?_; rintro e w5 ⟨rfl, hb5⟩)
     have HB5 := bfH HB4 hb5
     have HP5 := Lib.hid (HP.out w5 HB5.out)
     clear hb5
     go_wp2_with fail
     (refine HP5.out.mono ?_; rintro e w6 ⟨rfl, hb6⟩)
     have HB6 := bfH HB5 hb6
     have HA6 := Lib.hid (HA.out w6 HB6.out)
     clear hb6
     go_wp2_with fail
     (refine HA6.out.mono ?_; rintro e w7 ⟨rfl, hb7⟩)
     have HB7 := bfH HB6 hb7
     clear hb7
     go_wp2_with fail
     go_ret
     exact ⟨ret_bool rfl, HB7.out⟩
   | true =>
     have hlen := back_len HXI.out hW HSZ.out
     have h64 := bytes_64 hlen
     have HO := Lib.hid (fun w5 (hb : Below w.heap.size w w5) => ofs_any (textW (g + 1) x.c) w5 hlen (HOLD.out.2.below hb) h64.1 h64.2)
     have HAG := Lib.hid (fun (h2 : Nat) (l2 : List Vl) (w6 : World) (oa2 : Option Addr) (b2 o2 cap2 : Nat) (hc : l2.map Vl.c = valuesF (bytesF (textW (g + 1) x.c))) (hv : VsIn w6 h2 oa2 cap2 b2 o2 l2) => back_again HPE.out HXI.out hW hc hv)
     unfold textO at HT3
     rw [if_pos hW] at HT3
     clear hlen h64 hW
     generalize textW (g + 1) x.c = m at *
     go_wp2_with fail
     (refine HT3.out.mono ?_; rintro e w4 ⟨rfl, hb4⟩)
     have HB4 := bfH HB3 hb4
     have HB24 := bfH HB23 hb4
     have h4 := H33.out.below hb4 H33.out.lt
     have HX4 := Lib.hid (HX3.out.below hb4)
     have H34 := Lib.hid h4
     clear hb4 HT3 ca0 ca1 ca2 ca3 ca4 fca0 fca1 fca2 fca3 fca4 lca HX3
     have ca0 : w4.cell? ⟨g3, 0, none⟩ = some (.int .i64 ak) := (h4).cell 0
     have fca0 := (h4).frozen 0
     have ca1 : w4.cell? ⟨g3, 1, none⟩ = some (.int .i64 an) := (h4).cell 1
     have fca1 := (h4).frozen 1
     have ca2 : w4.cell? ⟨g3, 2, none⟩ = some (.int .i64 ad) := (h4).cell 2
     have fca2 := (h4).frozen 2
     have ca3 : w4.cell? ⟨g3, 3, none⟩ = some (.int .i64 au) := (h4).cell 3
     have fca3 := (h4).frozen 3
     have ca4 : w4.cell? ⟨g3, 4, none⟩ = some (.slice aoa aL ac) := (h4).cell 4
     have fca4 := (h4).frozen 4
     have lca := (h4).lt
     clear h4
     have HM4 := Lib.hid (HM.out w4 HB24.out)
     go_wp2_with fail
     (refine HM4.out.mono ?_; rintro e w5 ⟨rfl, hb5⟩)
     have HB5 := bfH HB4 hb5
     have HX5 := Lib.hid (HX4.out.below hb5)
     have H35 := Lib.hid (H34.out.below hb5 H34.out.lt)
     have HO5 := Lib.hid (HO.out w5 HB5.out)
     clear hb5 HX4 H34 ca0 ca1 ca2 ca3 ca4 fca0 fca1 fca2 fca3 fca4 lca
     go_wp2_with fail
     (refine HO5.out.mono ?_; rintro e w6 ⟨⟨v, rfl, h2, oa2, cap2, b2, o2, l2, rfl, hc2, hvs2⟩, hb6⟩)
     have HB6 := bfH HB5 hb6
     have HX6 := Lib.hid (HX5.out.below hb6)
     have H36 := Lib.hid (H35.out.below hb6 H35.out.lt)
     have hv6 := hvs2.here
     have h6 := cparse_any h2 l2 oa2 cap2 b2 o2 w6 hv6
     rw [HAG.out h2 l2 w6 oa2 b2 o2 cap2 hc2 hv6] at h6
     have hcl2 := hv6.sl.le
     have hcm2 := hv6.sl.max
     unfold maxLen at hcm2
     obtain ⟨N2, hN2⟩ : ∃ N, l2.length = N := ⟨_, rfl⟩
     rw [hN2] at h6 hcl2 ⊢
     have HC6 := Lib.hid h6
     clear hb6 HX5 H35 hv6 h6 hN2 hc2 hvs2 HAG
     go_wp2_with fail
     (refine HC6.out.mono ?_; rintro e w7 ⟨⟨fv, rfl, hy⟩, hb7⟩)
     obtain ⟨yk, yn, yd, yu, yoa, yL, yc, rfl⟩ := hy.e5
     have HX7 := Lib.hid (HX6.out.below hb7)
     have H37 := Lib.hid (H36.out.below hb7 H36.out.lt)
     have HB7 := bfH HB6 hb7
     have HY7 := Lib.hid hy
     clear hy hb7 HX6 H36 HC6
     go_upto_region 10 with fail
     obtain ⟨h8, hb8⟩ := box_new w7 27 #[.int .i64 yk, .int .i64 yn, .int .i64 yd, .int .i64 yu, .slice yoa yL yc]
     have h3 := H37.out.old (.cells #[.int .i64 yk, .int .i64 yn, .int .i64 yd, .int .i64 yu, .slice yoa yL yc] 27)
     have HB8 := bfH HB7 hb8
     have HSM := Lib.hid (rsame_is (HX7.out.below hb8) (HY7.out.below hb8))
     clear hb8 HX7 HY7 H37
     generalize w7.heap.size = g8 at *
     generalize w7.alloc _ = w8 at *
     have ca0 : w8.cell? ⟨g3, 0, none⟩ = some (.int .i64 ak) := (h3).cell 0
     have fca0 := (h3).frozen 0
     have ca1 : w8.cell? ⟨g3, 1, none⟩ = some (.int .i64 an) := (h3).cell 1
     have fca1 := (h3).frozen 1
     have ca2 : w8.cell? ⟨g3, 2, none⟩ = some (.int .i64 ad) := (h3).cell 2
     have fca2 := (h3).frozen 2
     have ca3 : w8.cell? ⟨g3, 3, none⟩ = some (.int .i64 au) := (h3).cell 3
     have fca3 := (h3).frozen 3
     have ca4 : w8.cell? ⟨g3, 4, none⟩ = some (.slice aoa aL ac) := (h3).cell 4
     have fca4 := (h3).frozen 4
     have lca := (h3).lt
     have cb0 : w8.cell? ⟨g8, 0, none⟩ = some (.int .i64 yk) := (h8).cell 0
     have fcb0 := (h8).frozen 0
     have cb1 : w8.cell? ⟨g8, 1, none⟩ = some (.int .i64 yn) := (h8).cell 1
     have fcb1 := (h8).frozen 1
     have cb2 : w8.cell? ⟨g8, 2, none⟩ = some (.int .i64 yd) := (h8).cell 2
     have fcb2 := (h8).frozen 2
     have cb3 : w8.cell? ⟨g8, 3, none⟩ = some (.int .i64 yu) := (h8).cell 3
     have fcb3 := (h8).frozen 3
     have cb4 : w8.cell? ⟨g8, 4, none⟩ = some (.slice yoa yL yc) := (h8).cell 4
     have fcb4 := (h8).frozen 4
     have lcb := (h8).lt
     clear h3 h8
     go_wp2_with fail
     (refine HSM.out.mono ?_; rintro e w9 ⟨rfl, hb9⟩)
     have HB9 := bfH HB8 hb9
     have HA9 := Lib.hid (HA.out w9 HB9.out)
     clear hb9
     go_wp2_with fail
     (refine HA9.out.mono ?_; rintro e wz ⟨rfl, hbz⟩)
     have HBZ := bfH HB9 hbz
     clear hbz
     go_wp2_with fail
     go_ret
     exact ⟨ret_bool rfl, HBZ.out⟩
end Go.Proofs.YtplnhjmomomphaaGreatDoor
