/- Of my texts: TextJ. -/
import Derived.Test.YtplnhjmomomphaaGreatDoorM13
import Derived.Test.YtplnhjmomomphaaGreatDoorM33
namespace Go.Proofs.YtplnhjmomomphaaGreatDoor
set_option linter.unusedVariables false
set_option linter.unusedSimpArgs false
open Go.RowKit
set_option maxRecDepth 20000 in
theorem unitname_any {u : Int} (h0 : 0 ≤ u) (h7 : u ≤ 7) (w : World) : Calls Tryz.prog 49 #[.int .i64 u] w fun x w' => x = .returned (.string ⟨(unitN u).toArray⟩) ∧ w' = w := by
 have h : u = 0 ∨ u = 1 ∨ u = 2 ∨ u = 3 ∨ u = 4 ∨ u = 5 ∨ u = 6 ∨ u = 7 := by omega
 rcases h with rfl | rfl | rfl | rfl | rfl | rfl | rfl | rfl
 · have hix := fun w => unit_index0 w
   go_enter Tryz.func49, Tryz.ntmps49
   go_wp2_with fail
   go_ret
   exact ⟨rfl, rfl⟩
 · have hix := fun w => unit_index1 w
   go_enter Tryz.func49, Tryz.ntmps49
   go_wp2_with fail
   go_ret
   exact ⟨rfl, rfl⟩
 · have hix := fun w => unit_index2 w
   go_enter Tryz.func49, Tryz.ntmps49
   go_wp2_with fail
   go_ret
   exact ⟨rfl, rfl⟩
 · have hix := fun w => unit_index3 w
   go_enter Tryz.func49, Tryz.ntmps49
   go_wp2_with fail
   go_ret
   exact ⟨rfl, rfl⟩
 · have hix := fun w => unit_index4 w
   go_enter Tryz.func49, Tryz.ntmps49
   go_wp2_with fail
   go_ret
   exact ⟨rfl, rfl⟩
 · have hix := fun w => unit_index5 w
   go_enter Tryz.func49, Tryz.ntmps49
   go_wp2_with fail
   go_ret
   exact ⟨rfl, rfl⟩
 · have hix := fun w => unit_index6 w
   go_enter Tryz.func49, Tryz.ntmps49
   go_wp2_with fail
   go_ret
   exact ⟨rfl, rfl⟩
 · have hix := fun w => unit_index7 w
   go_enter Tryz.func49, Tryz.ntmps49
   go_wp2_with fail
   go_ret
   exact ⟨rfl, rfl⟩
/-- what the reference's functions promise -/
def RtAt (f : FuncId) (X : Et → List UInt8) (C : World → Ex → Prop) : Prop := ∀ (e : Ex) (w : World), C w e → Pow10 w → (X e.c).length ≤ 140737488355328 →
 Calls Tryz.prog f #[xv e] w fun x w' => x = .returned (.string ⟨(X e.c).toArray⟩) ∧ Below w.heap.size w w'
def RSumAt (h : Nat) : Prop := RtAt 27 (sumT h) fun w e => ExIn w h e ∧ Wr h e.c
def ROperAt (h : Nat) : Prop := RtAt 28 (operX (sumT h)) fun w e => ExIn w (h + 1) e ∧ Wr (h + 1) e.c ∧ (e.c.kind = 2 ∨ e.c.kind = 4 → ExIn w h e ∧ Wr h e.c)
def RProdAt (h : Nat) : Prop := RtAt 48 (prodX (sumT h)) fun w e => ExIn w (h + 1) e ∧ Wr (h + 1) e.c ∧ (e.c.kind = 2 → ExIn w h e ∧ Wr h e.c)
set_option maxRecDepth 20000 in
set_option maxHeartbeats 8000000 in
theorem rproduct_step (h : Nat) (HO : ROperAt h) : RProdAt h := by
 intro e w hC hpw hlen
 obtain ⟨hx, hwr, h2⟩ := hC
 have HP := Lib.hid HO
 have HPW := Lib.hid hpw
 clear HO hpw
 obtain ⟨k, n, d, u, oa, bb, o, cap, kids⟩ := e
 by_cases hk : k = 4
 · subst hk
   have hT : prodX (sumT h) (Ex.mk 4 n d u oa bb o cap kids).c = piecesX (operX (sumT h)) 5 42 47 0 (kids.map Ex.c) := by
    rw [Ex.c_mk, prodX_prod rfl, join_pieces]
   rw [hT] at hlen ⊢
   clear hT
   have hwk : Wk (h + 1) (Ex.mk 4 n d u oa bb o cap kids).c := ⟨hwr.1, hwr.2.1⟩
   rw [Ex.c_mk] at hwk
   obtain ⟨h1, h2, h3, h4, h5, h6, h7, h8⟩ := hx
   have hsm : kids.length ≤ 9223372036854775807 := Nat.le_trans (Nat.le_trans h4 h5) (by decide)
   obtain ⟨X, hX⟩ : ∃ X, piecesX (operX (sumT h)) 5 42 47 0 (kids.map Ex.c) = X := ⟨_, rfl⟩
   rw [hX] at hlen ⊢
   rw [xv_mk]
   obtain ⟨L, hL⟩ : ∃ L, kids.length = L := ⟨_, rfl⟩
   rw [hL] at hsm h4 h7 ⊢
   have HL := Lib.hid hL
   have HWK := Lib.hid hwk
   have HX0 := Lib.hid (show [] ++ piecesX (operX (sumT h)) 5 42 47 0 ((kids.map Ex.c).drop 0) = X from hX)
   have HLEN := Lib.hid hlen
   clear hL hwk hX hlen hwr h1 h2 h3 h5 h6
   go_enter Tryz.func48, Tryz.ntmps48
   go_wp2_with fail
   go_loopg [3, 14] L (fun kk s3 s14 wr => ∃ (i : Nat) (D : List UInt8), s3 = .string ⟨D.toArray⟩ ∧ s14 = .int .i64 i ∧ Hid (Gk w wr 27 #[.int .i64 4, .int .i64 n, .int .i64 d, .int .i64 u, .slice oa L cap]) ∧ i ≤ L ∧ Hid (D ++ piecesX (operX (sumT h)) 5 42 47 i ((kids.map Ex.c).drop i) = X) ∧ L - i ≤ kk)
   case atStart => exact ⟨0, [], rfl, rfl, Lib.hid ⟨below_box _ _, Blk.new _ _ _⟩, Nat.zero_le _, HX0, by omega⟩
   case round =>
    obtain ⟨i, D, rfl, rfl, hg, hle, hY, hk2⟩ := hrel
    have hbel := Lib.hid hg.out.below
    by_cases hi : i < L
    · have gi : decide ((i : Int) < (L : Int)) = true := by simpa using hi
      have gin : decide (i < L) = true := by simpa using hi
      have hil : i < kids.length := by rw [HL.out]; exact hi
      have hr : kids[i]? = some kids[i] := List.getElem?_eq_getElem hil
      have hx := h8 i _ hr
      have hdr : (kids.map Ex.c).drop i = kids[i].c :: (kids.map Ex.c).drop (i + 1) := by
       rw [← List.map_drop, List.drop_eq_getElem_cons hil, List.map_cons, List.map_drop]
      have hci : (kids.map Ex.c)[i]? = some kids[i].c := by rw [List.getElem?_map, hr]; rfl
      obtain ⟨hwx, hkr⟩ := HWK.out.kid (by decide) hci
      have hfirst := fun h0 : i = 0 => HWK.out.first (by decide) (x := kids[i].c) (by rw [← hci, h0])
      have hsame := fun hk : kids[i].c.kind ≠ 5 => HWK.out.same (by decide) hci (fun e => by intro e2; revert e2; decide) (fun e => by exact absurd e hk)
      obtain ⟨rfl, hbl⟩ := h7 (by omega)
      generalize kids[i] = x at *
      have hlaw := hY.out
      rw [pieces_drop hdr] at hlaw
      clear hr hil hci hdr h7 h8 hkr hY
      obtain ⟨k', n', d', u', oa', b', o', cap', kids'⟩ := x
      obtain ⟨L', hL'⟩ : ∃ L', kids'.length = L' := ⟨_, rfl⟩
      have f0 : wr.cell? ⟨bb, o + i * 5, none⟩ = some (.int .i64 k') := (hbel.out.cell hbl).trans (hx.1 0 _ rfl)
      have f1 : wr.cell? ⟨bb, o + i * 5 + 1, none⟩ = some (.int .i64 n') := (hbel.out.cell hbl).trans (hx.1 1 _ rfl)
      have f2 : wr.cell? ⟨bb, o + i * 5 + 2, none⟩ = some (.int .i64 d') := (hbel.out.cell hbl).trans (hx.1 2 _ rfl)
      have f3 : wr.cell? ⟨bb, o + i * 5 + 3, none⟩ = some (.int .i64 u') := (hbel.out.cell hbl).trans (hx.1 3 _ rfl)
      have f4 : wr.cell? ⟨bb, o + i * 5 + 4, none⟩ = some (.slice oa' L' cap') := by rw [← hL']; exact (hbel.out.cell hbl).trans (hx.1 4 _ rfl)
      have HLW := Lib.hid hlaw
      have HX := Lib.hid (And.intro hx.2 hwx)
      have HFI := Lib.hid (And.intro hfirst hsame)
      clear hx hwx hfirst hsame hlaw
      go_upto_region 8 with fail
      have HB7 := Lib.hid (hbel.out.alloc hbel.out.size (.cells #[.int .i64 k', .int .i64 n', .int .i64 d', .int .i64 u', .slice oa' L' cap'] 27))
      have hk7 := Blk.new wr 27 #[.int .i64 k', .int .i64 n', .int .i64 d', .int .i64 u', .slice oa' L' cap']
      have HX7 := Lib.hid (hg.out.box.old (.cells #[.int .i64 k', .int .i64 n', .int .i64 d', .int .i64 u', .slice oa' L' cap'] 27))
      obtain ⟨g7, hg7⟩ : ∃ g7, wr.heap.size = g7 := ⟨_, rfl⟩
      rw [hg7] at hk7
      simp only [hg7]
      clear hg7 f0 f1 f2 f3 f4
      generalize wr.alloc _ = w7 at *
      obtain ⟨cg0, fcg0, cg1, fcg1, cg2, fcg2, cg3, fcg3, cg4, fcg4, lcg⟩ := Blk.five (hk7)
      clear hk7
      by_cases hkt : k' = 5
      · subst hkt
        have hi0 : i ≠ 0 := fun h0 => by have := (HFI.out.1 h0).2.2; rw [Ex.c_mk, kind_mk] at this; omega
        obtain ⟨y, rfl, rfl, hbl', hcy, hxy, hwy, hk0⟩ := turned_kid HX.out.1 HX.out.2 (by omega)
        have hP : pieceX (operX (sumT h)) 5 42 47 i (Ex.mk 5 n' d' u' (some ⟨b', o', none⟩) b' o' cap' [y]).c = [32, 47, 32] ++ operX (sumT h) y.c := by
         rw [pieceX, if_neg hi0, hk0, Ex.c_mk, kind_mk, if_pos rfl]
        have hln := HLEN.out
        rw [← HLW.out, hP] at hln
        simp only [List.length_append, List.length_cons, List.length_nil] at hln
        have hcall := HP.out y w7 (oper_kid (hxy.below (w' := w7) _ HB7.out) hwy) (HPW.out.below HB7.out) (by omega)
        have hlw2 := HLW.out
        rw [hP] at hlw2
        obtain ⟨E, hE⟩ : ∃ E, operX (sumT h) y.c = E := ⟨_, rfl⟩
        rw [hE] at hcall hlw2 hln
        obtain ⟨k2, n2, d2, u2, oa2, b2, o2, cap2, kids2⟩ := y
        obtain ⟨L2, hL2⟩ : ∃ L2, kids2.length = L2 := ⟨_, rfl⟩
        rw [xv_mk, hL2] at hcall
        obtain rfl : L' = 1 := by rw [← hL']; rfl
        have q0 : w7.cell? ⟨b', o', none⟩ = some (.int .i64 k2) := (HB7.out.cell hbl').trans (hcy 0 _ rfl)
        have q1 : w7.cell? ⟨b', o' + 1, none⟩ = some (.int .i64 n2) := (HB7.out.cell hbl').trans (hcy 1 _ rfl)
        have q2 : w7.cell? ⟨b', o' + 2, none⟩ = some (.int .i64 d2) := (HB7.out.cell hbl').trans (hcy 2 _ rfl)
        have q3 : w7.cell? ⟨b', o' + 3, none⟩ = some (.int .i64 u2) := (HB7.out.cell hbl').trans (hcy 3 _ rfl)
        have q4 : w7.cell? ⟨b', o' + 4, none⟩ = some (.slice oa2 L2 cap2) := by rw [← hL2]; exact (HB7.out.cell hbl').trans (hcy 4 _ rfl)
        have HLW := Lib.hid hlw2
        have HCALL := Lib.hid hcall
        have cA := fun w => run_cat_max [32, 47, 32] E (by simp only [List.length_cons, List.length_nil]; omega) w
        have cB := fun w => run_cat_max D ([32, 47, 32] ++ E) (by simp only [List.length_append, List.length_cons, List.length_nil]; omega) w
        simp only [List.cons_append, List.nil_append] at cA cB
        clear hcall hP hlw2 hi0 hln hk0 hbl' hcy hxy hwy hL2 hL' hE
        go_wp2_with fail
        ((with_reducible refine HCALL.out.mono ?_); rintro e w' ⟨rfl, hbw⟩)
        have HB9 := Lib.hid (HB7.out.trans (hbw.mono HB7.out.size))
        have HX9 := Lib.hid (HX7.out.below hbw HX7.out.lt)
        clear hbw
        go_wp2_with fail
        go_roundg (L - (i + 1))
        case measure => omega
        case rel => exact ⟨i + 1, D ++ ([32, 47, 32] ++ E), rfl, by go_num, Lib.hid ⟨HB9.out, HX9.out⟩, hi, Lib.hid (by have := HLW.out; first | exact this | simpa only [List.append_assoc] using this), Nat.le_refl _⟩
      · have gk : (k' == 5) = false := by simpa using hkt
        by_cases hi0 : i = 0
        · have ge : decide ((i : Int) > (0 : Int)) = false := by simp; omega
          have ge2 : decide ((0 : Int) < (i : Int)) = false := by simp; omega
          have ge3 : decide (0 < i) = false := by simp; omega
          have hP : pieceX (operX (sumT h)) 5 42 47 i (Ex.mk k' n' d' u' oa' b' o' cap' kids').c = operX (sumT h) (Ex.mk k' n' d' u' oa' b' o' cap' kids').c := by rw [pieceX, if_pos hi0]
          have hln := HLEN.out
          rw [← HLW.out, hP] at hln
          simp only [List.length_append] at hln
          have hcall := HP.out (Ex.mk k' n' d' u' oa' b' o' cap' kids') w7 (oper_kid (HX.out.1.below (w' := w7) _ HB7.out) (HFI.out.1 hi0)) (HPW.out.below HB7.out) (by omega)
          have hlw2 := HLW.out
          rw [hP] at hlw2
          obtain ⟨E, hE⟩ : ∃ E, operX (sumT h) (Ex.mk k' n' d' u' oa' b' o' cap' kids').c = E := ⟨_, rfl⟩
          rw [hE] at hcall hlw2 hln
          rw [xv_mk, hL'] at hcall
          have HLW := Lib.hid hlw2
          have HCALL := Lib.hid hcall
          have cB := fun w => run_cat_max D E (by omega) w
          clear hcall hP hlw2 hi0 hln hL' hE hkt
          go_wp2_with fail
          ((with_reducible refine HCALL.out.mono ?_); rintro e w' ⟨rfl, hbw⟩)
          have HB9 := Lib.hid (HB7.out.trans (hbw.mono HB7.out.size))
          have HX9 := Lib.hid (HX7.out.below hbw HX7.out.lt)
          clear hbw
          go_wp2_with fail
          go_roundg (L - (i + 1))
          case measure => omega
          case rel => exact ⟨i + 1, D ++ E, rfl, by go_num, Lib.hid ⟨HB9.out, HX9.out⟩, hi, Lib.hid (by have := HLW.out; first | exact this | simpa only [List.append_assoc] using this), Nat.le_refl _⟩
        · have ge : decide ((i : Int) > (0 : Int)) = true := by simp; omega
          have ge2 : decide ((0 : Int) < (i : Int)) = true := by simp; omega
          have ge3 : decide (0 < i) = true := by simp; omega
          have hP : pieceX (operX (sumT h)) 5 42 47 i (Ex.mk k' n' d' u' oa' b' o' cap' kids').c = [32, 42, 32] ++ operX (sumT h) (Ex.mk k' n' d' u' oa' b' o' cap' kids').c := by
           rw [pieceX, if_neg hi0, Ex.c_mk, kind_mk, if_neg hkt]
          have hln := HLEN.out
          rw [← HLW.out, hP] at hln
          simp only [List.length_append, List.length_cons, List.length_nil] at hln
          have hcall := HP.out (Ex.mk k' n' d' u' oa' b' o' cap' kids') w7 (oper_kid (HX.out.1.below (w' := w7) _ HB7.out) (HFI.out.2 (by rw [Ex.c_mk]; exact hkt))) (HPW.out.below HB7.out) (by omega)
          have hlw2 := HLW.out
          rw [hP] at hlw2
          obtain ⟨E, hE⟩ : ∃ E, operX (sumT h) (Ex.mk k' n' d' u' oa' b' o' cap' kids').c = E := ⟨_, rfl⟩
          rw [hE] at hcall hlw2 hln
          rw [xv_mk, hL'] at hcall
          have HLW := Lib.hid hlw2
          have HCALL := Lib.hid hcall
          have cA := fun w => run_cat_max [32, 42, 32] E (by simp only [List.length_cons, List.length_nil]; omega) w
          have cB := fun w => run_cat_max D ([32, 42, 32] ++ E) (by simp only [List.length_append, List.length_cons, List.length_nil]; omega) w
          simp only [List.cons_append, List.nil_append] at cA cB
          clear hcall hP hlw2 hi0 hln hL' hE hkt
          go_wp2_with fail
          ((with_reducible refine HCALL.out.mono ?_); rintro e w' ⟨rfl, hbw⟩)
          have HB9 := Lib.hid (HB7.out.trans (hbw.mono HB7.out.size))
          have HX9 := Lib.hid (HX7.out.below hbw HX7.out.lt)
          clear hbw
          go_wp2_with fail
          go_roundg (L - (i + 1))
          case measure => omega
          case rel => exact ⟨i + 1, D ++ ([32, 42, 32] ++ E), rfl, by go_num, Lib.hid ⟨HB9.out, HX9.out⟩, hi, Lib.hid (by have := HLW.out; first | exact this | simpa only [List.append_assoc] using this), Nat.le_refl _⟩
    · obtain rfl : i = L := by omega
      have gi : decide ((i : Int) < (i : Int)) = false := by simp
      have gin : decide (i < i) = false := by simp
      have hD : D = X := by
       have := hY.out
       rw [List.drop_eq_nil_of_le (by rw [List.length_map, HL.out]; exact Nat.le_refl _)] at this
       simpa [piecesX] using this
      subst hD
      clear h7 h8
      go_wp2_with fail
      go_ret
      exact ⟨rfl, hbel.out⟩
 · have gkn : (k != 4) = true := by simpa using hk
   have hk4 : (Ex.mk k n d u oa bb o cap kids).c.kind ≠ 4 := by rw [Ex.c_mk]; exact hk
   have hT : prodX (sumT h) (Ex.mk k n d u oa bb o cap kids).c = operX (sumT h) (Ex.mk k n d u oa bb o cap kids).c := prodX_other hk4
   rw [hT] at hlen ⊢
   have hb1 := below_box w (.cells #[.int .i64 k, .int .i64 n, .int .i64 d, .int .i64 u, .slice oa kids.length cap] 27)
   have hcall := HP.out (Ex.mk k n d u oa bb o cap kids) (w.alloc (.cells #[.int .i64 k, .int .i64 n, .int .i64 d, .int .i64 u, .slice oa kids.length cap] 27)) ⟨hx.below (w' := w.alloc _) _ hb1, hwr, fun hh => ⟨(h2 (hh.resolve_right hk4)).1.below (w' := w.alloc _) _ hb1, (h2 (hh.resolve_right hk4)).2⟩⟩ (HPW.out.below hb1) hlen
   rw [xv_mk] at hcall ⊢
   have HCALL := Lib.hid hcall
   have HB1 := Lib.hid hb1
   clear hcall hb1 hT hlen hk4 hk hwr hx
   go_enter Tryz.func48, Tryz.ntmps48
   go_wp2_with fail
   ((with_reducible refine HCALL.out.mono ?_); rintro e w' ⟨rfl, hbw⟩)
   have HF := Lib.hid (HB1.out.trans (hbw.mono HB1.out.size))
   clear hbw
   go_wp2_with fail
   go_ret
   exact ⟨rfl, HF.out⟩
set_option maxRecDepth 20000 in
set_option maxHeartbeats 8000000 in
theorem rsum_step (h : Nat) (HO : RProdAt h) : RSumAt (h + 1) := by
 intro e w hC hpw hlen
 obtain ⟨hx, hwr⟩ := hC
 have HP := Lib.hid HO
 have HPW := Lib.hid hpw
 clear HO hpw
 obtain ⟨k, n, d, u, oa, bb, o, cap, kids⟩ := e
 by_cases hk : k = 2
 · subst hk
   have hT : sumT (h + 1) (Ex.mk 2 n d u oa bb o cap kids).c = piecesX (prodX (sumT h)) 3 43 45 0 (kids.map Ex.c) := by
    rw [Ex.c_mk, sumT_sum rfl, join_pieces]
   rw [hT] at hlen ⊢
   clear hT
   have hwk : Wk (h + 1) (Ex.mk 2 n d u oa bb o cap kids).c := ⟨hwr.1, hwr.2.1⟩
   rw [Ex.c_mk] at hwk
   obtain ⟨h1, h2, h3, h4, h5, h6, h7, h8⟩ := hx
   have hsm : kids.length ≤ 9223372036854775807 := Nat.le_trans (Nat.le_trans h4 h5) (by decide)
   obtain ⟨X, hX⟩ : ∃ X, piecesX (prodX (sumT h)) 3 43 45 0 (kids.map Ex.c) = X := ⟨_, rfl⟩
   rw [hX] at hlen ⊢
   rw [xv_mk]
   obtain ⟨L, hL⟩ : ∃ L, kids.length = L := ⟨_, rfl⟩
   rw [hL] at hsm h4 h7 ⊢
   have HL := Lib.hid hL
   have HWK := Lib.hid hwk
   have HX0 := Lib.hid (show [] ++ piecesX (prodX (sumT h)) 3 43 45 0 ((kids.map Ex.c).drop 0) = X from hX)
   have HLEN := Lib.hid hlen
   clear hL hwk hX hlen hwr h1 h2 h3 h5 h6
   go_enter Tryz.func27, Tryz.ntmps27
   go_wp2_with fail
   go_loopg [3, 14] L (fun kk s3 s14 wr => ∃ (i : Nat) (D : List UInt8), s3 = .string ⟨D.toArray⟩ ∧ s14 = .int .i64 i ∧ Hid (Gk w wr 27 #[.int .i64 2, .int .i64 n, .int .i64 d, .int .i64 u, .slice oa L cap]) ∧ i ≤ L ∧ Hid (D ++ piecesX (prodX (sumT h)) 3 43 45 i ((kids.map Ex.c).drop i) = X) ∧ L - i ≤ kk)
   case atStart => exact ⟨0, [], rfl, rfl, Lib.hid ⟨below_box _ _, Blk.new _ _ _⟩, Nat.zero_le _, HX0, by omega⟩
   case round =>
    obtain ⟨i, D, rfl, rfl, hg, hle, hY, hk2⟩ := hrel
    have hbel := Lib.hid hg.out.below
    by_cases hi : i < L
    · have gi : decide ((i : Int) < (L : Int)) = true := by simpa using hi
      have gin : decide (i < L) = true := by simpa using hi
      have hil : i < kids.length := by rw [HL.out]; exact hi
      have hr : kids[i]? = some kids[i] := List.getElem?_eq_getElem hil
      have hx := h8 i _ hr
      have hdr : (kids.map Ex.c).drop i = kids[i].c :: (kids.map Ex.c).drop (i + 1) := by
       rw [← List.map_drop, List.drop_eq_getElem_cons hil, List.map_cons, List.map_drop]
      have hci : (kids.map Ex.c)[i]? = some kids[i].c := by rw [List.getElem?_map, hr]; rfl
      obtain ⟨hwx, hkr⟩ := HWK.out.kid (by decide) hci
      have hfirst := fun h0 : i = 0 => HWK.out.first (by decide) (x := kids[i].c) (by rw [← hci, h0])
      have hsame := fun hk : kids[i].c.kind ≠ 3 => HWK.out.same (by decide) hci (fun e => by exact absurd e hk) (fun e => by intro e2; revert e2; decide)
      obtain ⟨rfl, hbl⟩ := h7 (by omega)
      generalize kids[i] = x at *
      have hlaw := hY.out
      rw [pieces_drop hdr] at hlaw
      clear hr hil hci hdr h7 h8 hkr hY
      obtain ⟨k', n', d', u', oa', b', o', cap', kids'⟩ := x
      obtain ⟨L', hL'⟩ : ∃ L', kids'.length = L' := ⟨_, rfl⟩
      have f0 : wr.cell? ⟨bb, o + i * 5, none⟩ = some (.int .i64 k') := (hbel.out.cell hbl).trans (hx.1 0 _ rfl)
      have f1 : wr.cell? ⟨bb, o + i * 5 + 1, none⟩ = some (.int .i64 n') := (hbel.out.cell hbl).trans (hx.1 1 _ rfl)
      have f2 : wr.cell? ⟨bb, o + i * 5 + 2, none⟩ = some (.int .i64 d') := (hbel.out.cell hbl).trans (hx.1 2 _ rfl)
      have f3 : wr.cell? ⟨bb, o + i * 5 + 3, none⟩ = some (.int .i64 u') := (hbel.out.cell hbl).trans (hx.1 3 _ rfl)
      have f4 : wr.cell? ⟨bb, o + i * 5 + 4, none⟩ = some (.slice oa' L' cap') := by rw [← hL']; exact (hbel.out.cell hbl).trans (hx.1 4 _ rfl)
      have HLW := Lib.hid hlaw
      have HX := Lib.hid (And.intro hx.2 hwx)
      have HFI := Lib.hid (And.intro hfirst hsame)
      clear hx hwx hfirst hsame hlaw
      go_upto_region 8 with fail
      have HB7 := Lib.hid (hbel.out.alloc hbel.out.size (.cells #[.int .i64 k', .int .i64 n', .int .i64 d', .int .i64 u', .slice oa' L' cap'] 27))
      have hk7 := Blk.new wr 27 #[.int .i64 k', .int .i64 n', .int .i64 d', .int .i64 u', .slice oa' L' cap']
      have HX7 := Lib.hid (hg.out.box.old (.cells #[.int .i64 k', .int .i64 n', .int .i64 d', .int .i64 u', .slice oa' L' cap'] 27))
      obtain ⟨g7, hg7⟩ : ∃ g7, wr.heap.size = g7 := ⟨_, rfl⟩
      rw [hg7] at hk7
      simp only [hg7]
      clear hg7 f0 f1 f2 f3 f4
      generalize wr.alloc _ = w7 at *
      obtain ⟨cg0, fcg0, cg1, fcg1, cg2, fcg2, cg3, fcg3, cg4, fcg4, lcg⟩ := Blk.five (hk7)
      clear hk7
      by_cases hkt : k' = 3
      · subst hkt
        have hi0 : i ≠ 0 := fun h0 => by have := (HFI.out.1 h0).2.2; rw [Ex.c_mk, kind_mk] at this; omega
        obtain ⟨y, rfl, rfl, hbl', hcy, hxy, hwy, hk0⟩ := turned_kid HX.out.1 HX.out.2 (by omega)
        have hP : pieceX (prodX (sumT h)) 3 43 45 i (Ex.mk 3 n' d' u' (some ⟨b', o', none⟩) b' o' cap' [y]).c = [32, 45, 32] ++ prodX (sumT h) y.c := by
         rw [pieceX, if_neg hi0, hk0, Ex.c_mk, kind_mk, if_pos rfl]
        have hln := HLEN.out
        rw [← HLW.out, hP] at hln
        simp only [List.length_append, List.length_cons, List.length_nil] at hln
        have hcall := HP.out y w7 (prod_kid (hxy.below (w' := w7) _ HB7.out) hwy) (HPW.out.below HB7.out) (by omega)
        have hlw2 := HLW.out
        rw [hP] at hlw2
        obtain ⟨E, hE⟩ : ∃ E, prodX (sumT h) y.c = E := ⟨_, rfl⟩
        rw [hE] at hcall hlw2 hln
        obtain ⟨k2, n2, d2, u2, oa2, b2, o2, cap2, kids2⟩ := y
        obtain ⟨L2, hL2⟩ : ∃ L2, kids2.length = L2 := ⟨_, rfl⟩
        rw [xv_mk, hL2] at hcall
        obtain rfl : L' = 1 := by rw [← hL']; rfl
        have q0 : w7.cell? ⟨b', o', none⟩ = some (.int .i64 k2) := (HB7.out.cell hbl').trans (hcy 0 _ rfl)
        have q1 : w7.cell? ⟨b', o' + 1, none⟩ = some (.int .i64 n2) := (HB7.out.cell hbl').trans (hcy 1 _ rfl)
        have q2 : w7.cell? ⟨b', o' + 2, none⟩ = some (.int .i64 d2) := (HB7.out.cell hbl').trans (hcy 2 _ rfl)
        have q3 : w7.cell? ⟨b', o' + 3, none⟩ = some (.int .i64 u2) := (HB7.out.cell hbl').trans (hcy 3 _ rfl)
        have q4 : w7.cell? ⟨b', o' + 4, none⟩ = some (.slice oa2 L2 cap2) := by rw [← hL2]; exact (HB7.out.cell hbl').trans (hcy 4 _ rfl)
        have HLW := Lib.hid hlw2
        have HCALL := Lib.hid hcall
        have cA := fun w => run_cat_max [32, 45, 32] E (by simp only [List.length_cons, List.length_nil]; omega) w
        have cB := fun w => run_cat_max D ([32, 45, 32] ++ E) (by simp only [List.length_append, List.length_cons, List.length_nil]; omega) w
        simp only [List.cons_append, List.nil_append] at cA cB
        clear hcall hP hlw2 hi0 hln hk0 hbl' hcy hxy hwy hL2 hL' hE
        go_wp2_with fail
        ((with_reducible refine HCALL.out.mono ?_); rintro e w' ⟨rfl, hbw⟩)
        have HB9 := Lib.hid (HB7.out.trans (hbw.mono HB7.out.size))
        have HX9 := Lib.hid (HX7.out.below hbw HX7.out.lt)
        clear hbw
        go_wp2_with fail
        go_roundg (L - (i + 1))
        case measure => omega
        case rel => exact ⟨i + 1, D ++ ([32, 45, 32] ++ E), rfl, by go_num, Lib.hid ⟨HB9.out, HX9.out⟩, hi, Lib.hid (by have := HLW.out; first | exact this | simpa only [List.append_assoc] using this), Nat.le_refl _⟩
      · have gk : (k' == 3) = false := by simpa using hkt
        by_cases hi0 : i = 0
        · have ge : decide ((i : Int) > (0 : Int)) = false := by simp; omega
          have ge2 : decide ((0 : Int) < (i : Int)) = false := by simp; omega
          have ge3 : decide (0 < i) = false := by simp; omega
          have hP : pieceX (prodX (sumT h)) 3 43 45 i (Ex.mk k' n' d' u' oa' b' o' cap' kids').c = prodX (sumT h) (Ex.mk k' n' d' u' oa' b' o' cap' kids').c := by rw [pieceX, if_pos hi0]
          have hln := HLEN.out
          rw [← HLW.out, hP] at hln
          simp only [List.length_append] at hln
          have hcall := HP.out (Ex.mk k' n' d' u' oa' b' o' cap' kids') w7 (prod_kid (HX.out.1.below (w' := w7) _ HB7.out) (HFI.out.1 hi0)) (HPW.out.below HB7.out) (by omega)
          have hlw2 := HLW.out
          rw [hP] at hlw2
          obtain ⟨E, hE⟩ : ∃ E, prodX (sumT h) (Ex.mk k' n' d' u' oa' b' o' cap' kids').c = E := ⟨_, rfl⟩
          rw [hE] at hcall hlw2 hln
          rw [xv_mk, hL'] at hcall
          have HLW := Lib.hid hlw2
          have HCALL := Lib.hid hcall
          have cB := fun w => run_cat_max D E (by omega) w
          clear hcall hP hlw2 hi0 hln hL' hE hkt
          go_wp2_with fail
          ((with_reducible refine HCALL.out.mono ?_); rintro e w' ⟨rfl, hbw⟩)
          have HB9 := Lib.hid (HB7.out.trans (hbw.mono HB7.out.size))
          have HX9 := Lib.hid (HX7.out.below hbw HX7.out.lt)
          clear hbw
          go_wp2_with fail
          go_roundg (L - (i + 1))
          case measure => omega
          case rel => exact ⟨i + 1, D ++ E, rfl, by go_num, Lib.hid ⟨HB9.out, HX9.out⟩, hi, Lib.hid (by have := HLW.out; first | exact this | simpa only [List.append_assoc] using this), Nat.le_refl _⟩
        · have ge : decide ((i : Int) > (0 : Int)) = true := by simp; omega
          have ge2 : decide ((0 : Int) < (i : Int)) = true := by simp; omega
          have ge3 : decide (0 < i) = true := by simp; omega
          have hP : pieceX (prodX (sumT h)) 3 43 45 i (Ex.mk k' n' d' u' oa' b' o' cap' kids').c = [32, 43, 32] ++ prodX (sumT h) (Ex.mk k' n' d' u' oa' b' o' cap' kids').c := by
           rw [pieceX, if_neg hi0, Ex.c_mk, kind_mk, if_neg hkt]
          have hln := HLEN.out
          rw [← HLW.out, hP] at hln
          simp only [List.length_append, List.length_cons, List.length_nil] at hln
          have hcall := HP.out (Ex.mk k' n' d' u' oa' b' o' cap' kids') w7 (prod_kid (HX.out.1.below (w' := w7) _ HB7.out) (HFI.out.2 (by rw [Ex.c_mk]; exact hkt))) (HPW.out.below HB7.out) (by omega)
          have hlw2 := HLW.out
          rw [hP] at hlw2
          obtain ⟨E, hE⟩ : ∃ E, prodX (sumT h) (Ex.mk k' n' d' u' oa' b' o' cap' kids').c = E := ⟨_, rfl⟩
          rw [hE] at hcall hlw2 hln
          rw [xv_mk, hL'] at hcall
          have HLW := Lib.hid hlw2
          have HCALL := Lib.hid hcall
          have cA := fun w => run_cat_max [32, 43, 32] E (by simp only [List.length_cons, List.length_nil]; omega) w
          have cB := fun w => run_cat_max D ([32, 43, 32] ++ E) (by simp only [List.length_append, List.length_cons, List.length_nil]; omega) w
          simp only [List.cons_append, List.nil_append] at cA cB
          clear hcall hP hlw2 hi0 hln hL' hE hkt
          go_wp2_with fail
          ((with_reducible refine HCALL.out.mono ?_); rintro e w' ⟨rfl, hbw⟩)
          have HB9 := Lib.hid (HB7.out.trans (hbw.mono HB7.out.size))
          have HX9 := Lib.hid (HX7.out.below hbw HX7.out.lt)
          clear hbw
          go_wp2_with fail
          go_roundg (L - (i + 1))
          case measure => omega
          case rel => exact ⟨i + 1, D ++ ([32, 43, 32] ++ E), rfl, by go_num, Lib.hid ⟨HB9.out, HX9.out⟩, hi, Lib.hid (by have := HLW.out; first | exact this | simpa only [List.append_assoc] using this), Nat.le_refl _⟩
    · obtain rfl : i = L := by omega
      have gi : decide ((i : Int) < (i : Int)) = false := by simp
      have gin : decide (i < i) = false := by simp
      have hD : D = X := by
       have := hY.out
       rw [List.drop_eq_nil_of_le (by rw [List.length_map, HL.out]; exact Nat.le_refl _)] at this
       simpa [piecesX] using this
      subst hD
      clear h7 h8
      go_wp2_with fail
      go_ret
      exact ⟨rfl, hbel.out⟩
 · have gkn : (k != 2) = true := by simpa using hk
   have hk4 : (Ex.mk k n d u oa bb o cap kids).c.kind ≠ 2 := by rw [Ex.c_mk]; exact hk
   have hT : sumT (h + 1) (Ex.mk k n d u oa bb o cap kids).c = prodX (sumT h) (Ex.mk k n d u oa bb o cap kids).c := sumT_other hk4
   rw [hT] at hlen ⊢
   have hb1 := below_box w (.cells #[.int .i64 k, .int .i64 n, .int .i64 d, .int .i64 u, .slice oa kids.length cap] 27)
   have hcall := HP.out (Ex.mk k n d u oa bb o cap kids) (w.alloc (.cells #[.int .i64 k, .int .i64 n, .int .i64 d, .int .i64 u, .slice oa kids.length cap] 27)) ⟨hx.below (w' := w.alloc _) _ hb1, hwr, fun hh => absurd hh hk4⟩ (HPW.out.below hb1) hlen
   rw [xv_mk] at hcall ⊢
   have HCALL := Lib.hid hcall
   have HB1 := Lib.hid hb1
   clear hcall hb1 hT hlen hk4 hk hwr hx
   go_enter Tryz.func27, Tryz.ntmps27
   go_wp2_with fail
   ((with_reducible refine HCALL.out.mono ?_); rintro e w' ⟨rfl, hbw⟩)
   have HF := Lib.hid (HB1.out.trans (hbw.mono HB1.out.size))
   clear hbw
   go_wp2_with fail
   go_ret
   exact ⟨rfl, HF.out⟩
set_option maxRecDepth 20000 in
set_option maxHeartbeats 8000000 in
theorem roper_step (h : Nat) (HS : RSumAt h) : ROperAt h := by
 intro e w hC hpw hlen
 obtain ⟨hx, hwr, h24⟩ := hC
 obtain ⟨k, n, d, u, oa, bb, o, cap, kids⟩ := e
 have hkinds := hwr
 rw [Ex.c_mk] at hkinds
 have hkinds := hkinds.kinds
 rcases hkinds with hk | hk | hk | hk | hk | hk
 · subst hk
   have hwk : Wk (h + 1) (Ex.mk 1 n d u oa bb o cap kids).c := ⟨hwr.1, hwr.2.1⟩
   rw [Ex.c_mk] at hwk
   obtain ⟨_, hu0, hu7, t, ht⟩ := hwk.num
   have hT : operX (sumT h) (Ex.mk 1 n d u oa bb o cap kids).c = t ++ unitN u := by
    rw [Ex.c_mk, operX_num, numW, ht]
    rfl
   rw [hT] at hlen ⊢
   rw [List.length_append] at hlen
   have h64 := hx.2.1
   have c1 := fun w hd => rplain_any (n, d) (d == 1) w h64 hd
   rw [ht] at c1
   simp only [rv, outP] at c1
   rw [xv_mk]
   have hb1 := below_box w (.cells #[.int .i64 1, .int .i64 n, .int .i64 d, .int .i64 u, .slice oa kids.length cap] 27)
   have hx1 := Blk.new w 27 #[.int .i64 1, .int .i64 n, .int .i64 d, .int .i64 u, .slice oa kids.length cap]
   have HC := Lib.hid (c1 _ (hpw.below hb1))
   have HN := Lib.hid (fun w => unitname_any hu0 hu7 w)
   have HB1 := Lib.hid (And.intro hb1 hx1)
   have cB := fun w => run_cat_max t (unitN u) (by omega) w
   clear c1 ht hlen hb1 hx1 hT hwk hu0 hu7 h64 hx hwr h24 HS hpw
   go_enter Tryz.func28, Tryz.ntmps28
   go_wp2_with fail
   ((with_reducible refine (HC.out).mono ?_); rintro e w' ⟨rfl, hbw⟩)
   obtain ⟨m1, rfl⟩ := grow_mk hbw
   clear hbw
   have hx2 := HB1.out.2.grow m1
   have HB2 := Lib.hid (below_grow HB1.out.1 m1)
   obtain ⟨gE, hgE⟩ : ∃ gE, w.heap.size = gE := ⟨_, rfl⟩
   rw [hgE] at hx2
   simp only [hgE]
   generalize grow _ m1 = w2 at *
   obtain ⟨cb0, fcb0, cb1, fcb1, cb2, fcb2, cb3, fcb3, cb4, fcb4, lcb⟩ := Blk.five (hx2)
   clear hx2
   go_wp2_with fail
   ((with_reducible refine (HN.out _).mono ?_); rintro e w' ⟨rfl, rfl⟩)
   go_wp2_with fail
   go_ret
   exact ⟨rfl, HB2.out⟩
 · subst hk
   have hT : operX (sumT h) (Ex.mk 2 n d u oa bb o cap kids).c = [40] ++ sumT h (Ex.mk 2 n d u oa bb o cap kids).c ++ [41] := by
    rw [Ex.c_mk, operX_par _ _ _ _ _ (by omega)]
   rw [hT] at hlen ⊢
   clear hT
   simp only [List.length_append, List.length_cons, List.length_nil] at hlen
   obtain ⟨hx2, hw2⟩ := h24 (by rw [Ex.c_mk, kind_mk]; omega)
   have hb1 := below_box w (.cells #[.int .i64 2, .int .i64 n, .int .i64 d, .int .i64 u, .slice oa kids.length cap] 27)
   have hcall := HS (Ex.mk 2 n d u oa bb o cap kids) (w.alloc (.cells #[.int .i64 2, .int .i64 n, .int .i64 d, .int .i64 u, .slice oa kids.length cap] 27)) ⟨hx2.below (w' := w.alloc _) _ hb1, hw2⟩ (hpw.below hb1) (by omega)
   rw [xv_mk] at hcall ⊢
   obtain ⟨X, hX⟩ : ∃ X, sumT h (Ex.mk 2 n d u oa bb o cap kids).c = X := ⟨_, rfl⟩
   rw [hX] at hcall hlen ⊢
   have HCALL := Lib.hid hcall
   have HB1 := Lib.hid hb1
   have cA := fun w => run_cat_max [40] X (by simp only [List.length_cons, List.length_nil]; omega) w
   have cB := fun w => run_cat_max ([40] ++ X) [41] (by simp only [List.length_append, List.length_cons, List.length_nil]; omega) w
   simp only [List.cons_append, List.nil_append] at cA cB
   clear hcall hb1 hlen hX hx2 hw2 h24 hx hwr
   go_enter Tryz.func28, Tryz.ntmps28
   go_wp2_with fail
   ((with_reducible refine HCALL.out.mono ?_); rintro e w' ⟨rfl, hbw⟩)
   have HF := Lib.hid (HB1.out.trans (hbw.mono HB1.out.size))
   clear hbw
   go_wp2_with fail
   go_ret
   exact ⟨rfl, HF.out⟩
 · subst hk
   have hT : operX (sumT h) (Ex.mk 4 n d u oa bb o cap kids).c = [40] ++ sumT h (Ex.mk 4 n d u oa bb o cap kids).c ++ [41] := by
    rw [Ex.c_mk, operX_par _ _ _ _ _ (by omega)]
   rw [hT] at hlen ⊢
   clear hT
   simp only [List.length_append, List.length_cons, List.length_nil] at hlen
   obtain ⟨hx2, hw2⟩ := h24 (by rw [Ex.c_mk, kind_mk]; omega)
   have hb1 := below_box w (.cells #[.int .i64 4, .int .i64 n, .int .i64 d, .int .i64 u, .slice oa kids.length cap] 27)
   have hcall := HS (Ex.mk 4 n d u oa bb o cap kids) (w.alloc (.cells #[.int .i64 4, .int .i64 n, .int .i64 d, .int .i64 u, .slice oa kids.length cap] 27)) ⟨hx2.below (w' := w.alloc _) _ hb1, hw2⟩ (hpw.below hb1) (by omega)
   rw [xv_mk] at hcall ⊢
   obtain ⟨X, hX⟩ : ∃ X, sumT h (Ex.mk 4 n d u oa bb o cap kids).c = X := ⟨_, rfl⟩
   rw [hX] at hcall hlen ⊢
   have HCALL := Lib.hid hcall
   have HB1 := Lib.hid hb1
   have cA := fun w => run_cat_max [40] X (by simp only [List.length_cons, List.length_nil]; omega) w
   have cB := fun w => run_cat_max ([40] ++ X) [41] (by simp only [List.length_append, List.length_cons, List.length_nil]; omega) w
   simp only [List.cons_append, List.nil_append] at cA cB
   clear hcall hb1 hlen hX hx2 hw2 h24 hx hwr
   go_enter Tryz.func28, Tryz.ntmps28
   go_wp2_with fail
   ((with_reducible refine HCALL.out.mono ?_); rintro e w' ⟨rfl, hbw⟩)
   have HF := Lib.hid (HB1.out.trans (hbw.mono HB1.out.size))
   clear hbw
   go_wp2_with fail
   go_ret
   exact ⟨rfl, HF.out⟩
 · subst hk
   have hT : operX (sumT h) (Ex.mk 6 n d u oa bb o cap kids).c = [109, 105, 110, 40] ++ cpieces (sumT h) 0 (kids.map Ex.c) ++ [41] := by
    rw [Ex.c_mk, operX_min]
   rw [hT] at hlen ⊢
   clear hT h24
   have hwk : Wk (h + 1) (Ex.mk 6 n d u oa bb o cap kids).c := ⟨hwr.1, hwr.2.1⟩
   rw [Ex.c_mk] at hwk
   obtain ⟨h1, h2, h3, h4, h5, h6, h7, h8⟩ := hx
   have hsm : kids.length ≤ 9223372036854775807 := Nat.le_trans (Nat.le_trans h4 h5) (by decide)
   obtain ⟨X, hX⟩ : ∃ X, cpieces (sumT h) 0 (kids.map Ex.c) = X := ⟨_, rfl⟩
   rw [hX] at hlen ⊢
   simp only [List.length_append, List.length_cons, List.length_nil] at hlen
   rw [xv_mk]
   obtain ⟨L, hL⟩ : ∃ L, kids.length = L := ⟨_, rfl⟩
   rw [hL] at hsm h4 h7 ⊢
   have HL := Lib.hid hL
   have HWK := Lib.hid hwk
   have HP := Lib.hid HS
   have HPW := Lib.hid hpw
   have HX0 := Lib.hid (show [] ++ cpieces (sumT h) 0 ((kids.map Ex.c).drop 0) = X from hX)
   have HNE := Lib.hid hlen
   have c0 := fun w => run_cat_max [109, 105, 110] [40] (by decide) w
   simp only [List.cons_append, List.nil_append] at c0
   clear hlen hX hL hwr hwk h1 h2 h3 h5 h6 HS hpw
   go_enter Tryz.func28, Tryz.ntmps28
   go_wp2_with fail
   go_loopg [6, 43] L (fun kk s6 s43 wr => ∃ (i : Nat) (D : List UInt8), s6 = .string ⟨([109, 105, 110, 40] ++ D).toArray⟩ ∧ s43 = .int .i64 i ∧ Hid (Gk w wr 27 #[.int .i64 6, .int .i64 n, .int .i64 d, .int .i64 u, .slice oa L cap]) ∧ i ≤ L ∧ Hid (D ++ cpieces (sumT h) i ((kids.map Ex.c).drop i) = X) ∧ L - i ≤ kk)
   case atStart => exact ⟨0, [], rfl, rfl, Lib.hid ⟨below_box _ _, Blk.new _ _ _⟩, Nat.zero_le _, HX0, by omega⟩
   case round =>
    obtain ⟨i, D, rfl, rfl, hg, hle, hY, hk2⟩ := hrel
    have hbel := Lib.hid hg.out.below
    clear c0
    by_cases hi : i < L
    · have gi : decide ((i : Int) < (L : Int)) = true := by simpa using hi
      have gin : decide (i < L) = true := by simpa using hi
      have hil : i < kids.length := by rw [HL.out]; exact hi
      have hr : kids[i]? = some kids[i] := List.getElem?_eq_getElem hil
      have hx := h8 i _ hr
      have hdr : (kids.map Ex.c).drop i = kids[i].c :: (kids.map Ex.c).drop (i + 1) := by
       rw [← List.map_drop, List.drop_eq_getElem_cons hil, List.map_cons, List.map_drop]
      have hci : (kids.map Ex.c)[i]? = some kids[i].c := by rw [List.getElem?_map, hr]; rfl
      have hsame := HWK.out.same (by decide) hci (fun _ e => by revert e; decide) (fun _ e => by revert e; decide)
      obtain ⟨rfl, hbl⟩ := h7 (by omega)
      generalize kids[i] = x at *
      have hlaw := hY.out
      rw [cpieces_drop hdr] at hlaw
      clear hr hil hci hdr h7 h8 hY
      have hall := fun wx hb hl => HP.out x wx ⟨hx.2.below (w' := wx) _ hb, hsame⟩ (HPW.out.below hb) hl
      obtain ⟨E, hE⟩ : ∃ E, sumT h x.c = E := ⟨_, rfl⟩
      rw [hE] at hall hlaw
      obtain ⟨k', n', d', u', oa', b', o', cap', kids'⟩ := x
      obtain ⟨L', hL'⟩ : ∃ L', kids'.length = L' := ⟨_, rfl⟩
      have f0 : wr.cell? ⟨bb, o + i * 5, none⟩ = some (.int .i64 k') := (hbel.out.cell hbl).trans (hx.1 0 _ rfl)
      have f1 : wr.cell? ⟨bb, o + i * 5 + 1, none⟩ = some (.int .i64 n') := (hbel.out.cell hbl).trans (hx.1 1 _ rfl)
      have f2 : wr.cell? ⟨bb, o + i * 5 + 2, none⟩ = some (.int .i64 d') := (hbel.out.cell hbl).trans (hx.1 2 _ rfl)
      have f3 : wr.cell? ⟨bb, o + i * 5 + 3, none⟩ = some (.int .i64 u') := (hbel.out.cell hbl).trans (hx.1 3 _ rfl)
      have f4 : wr.cell? ⟨bb, o + i * 5 + 4, none⟩ = some (.slice oa' L' cap') := by rw [← hL']; exact (hbel.out.cell hbl).trans (hx.1 4 _ rfl)
      rw [xv_mk, hL'] at hall
      have HALL := Lib.hid hall
      have HLW := Lib.hid hlaw
      clear hx hsame hall hlaw hE hL'
      go_upto_region 17 with fail
      have HB7 := Lib.hid (hbel.out.alloc hbel.out.size (.cells #[.int .i64 k', .int .i64 n', .int .i64 d', .int .i64 u', .slice oa' L' cap'] 27))
      have hk7 := Blk.new wr 27 #[.int .i64 k', .int .i64 n', .int .i64 d', .int .i64 u', .slice oa' L' cap']
      have HX7 := Lib.hid (hg.out.box.old (.cells #[.int .i64 k', .int .i64 n', .int .i64 d', .int .i64 u', .slice oa' L' cap'] 27))
      obtain ⟨g7, hg7⟩ : ∃ g7, wr.heap.size = g7 := ⟨_, rfl⟩
      rw [hg7] at hk7
      simp only [hg7]
      clear hg7 f0 f1 f2 f3 f4
      generalize wr.alloc _ = w7 at *
      obtain ⟨cg0, fcg0, cg1, fcg1, cg2, fcg2, cg3, fcg3, cg4, fcg4, lcg⟩ := Blk.five (hk7)
      clear hk7
      by_cases hi0 : i = 0
      · have ge : decide ((i : Int) > (0 : Int)) = false := by simp; omega
        have ge2 : decide ((0 : Int) < (i : Int)) = false := by simp; omega
        have ge3 : decide (0 < i) = false := by simp; omega
        have hlw2 := HLW.out
        rw [if_pos hi0] at hlw2
        have hln := HNE.out
        rw [← hlw2] at hln
        simp only [List.length_append, List.length_cons, List.length_nil] at hln
        have hcall := HALL.out w7 HB7.out (by omega)
        have HLW := Lib.hid hlw2
        have HCALL := Lib.hid hcall
        have cB := fun w => run_cat_max ([109, 105, 110, 40] ++ D) E (by simp only [List.length_append, List.length_cons, List.length_nil]; omega) w
        simp only [List.cons_append, List.nil_append] at cB
        clear hcall hlw2 hi0 hln
        go_wp2_with fail
        ((with_reducible refine HCALL.out.mono ?_); rintro e w' ⟨rfl, hbw⟩)
        have HB9 := Lib.hid (HB7.out.trans (hbw.mono HB7.out.size))
        have HX9 := Lib.hid (HX7.out.below hbw HX7.out.lt)
        clear hbw
        go_wp2_with fail
        go_roundg (L - (i + 1))
        case measure => omega
        case rel => exact ⟨i + 1, D ++ E, by simp, by go_num, Lib.hid ⟨HB9.out, HX9.out⟩, hi, Lib.hid (by have := HLW.out; first | exact this | simpa only [List.append_assoc] using this), Nat.le_refl _⟩
      · have ge : decide ((i : Int) > (0 : Int)) = true := by simp; omega
        have ge2 : decide ((0 : Int) < (i : Int)) = true := by simp; omega
        have ge3 : decide (0 < i) = true := by simp; omega
        have hlw2 := HLW.out
        rw [if_neg hi0] at hlw2
        have hln := HNE.out
        rw [← hlw2] at hln
        simp only [List.length_append, List.length_cons, List.length_nil] at hln
        have hcall := HALL.out w7 HB7.out (by omega)
        have HLW := Lib.hid hlw2
        have HCALL := Lib.hid hcall
        have cA := fun w => run_cat_max ([109, 105, 110, 40] ++ D) [44, 32] (by simp only [List.length_append, List.length_cons, List.length_nil]; omega) w
        have cB := fun w => run_cat_max ([109, 105, 110, 40] ++ D ++ [44, 32]) E (by simp only [List.length_append, List.length_cons, List.length_nil]; omega) w
        simp only [List.cons_append, List.nil_append] at cA cB
        clear hcall hlw2 hi0 hln
        go_wp2_with fail
        ((with_reducible refine HCALL.out.mono ?_); rintro e w' ⟨rfl, hbw⟩)
        have HB9 := Lib.hid (HB7.out.trans (hbw.mono HB7.out.size))
        have HX9 := Lib.hid (HX7.out.below hbw HX7.out.lt)
        clear hbw
        go_wp2_with fail
        go_roundg (L - (i + 1))
        case measure => omega
        case rel => exact ⟨i + 1, D ++ ([44, 32] ++ E), by simp, by go_num, Lib.hid ⟨HB9.out, HX9.out⟩, hi, Lib.hid (by have := HLW.out; first | exact this | simpa only [List.append_assoc] using this), Nat.le_refl _⟩
    · obtain rfl : i = L := by omega
      have gi : decide ((i : Int) < (i : Int)) = false := by simp
      have gin : decide (i < i) = false := by simp
      have hD2 : D = X := by
       have := hY.out
       rw [List.drop_eq_nil_of_le (by rw [List.length_map, HL.out]; exact Nat.le_refl _)] at this
       simpa [cpieces] using this
      subst hD2
      have cB := fun w => run_cat_max ([109, 105, 110, 40] ++ D) [41] (by have := HNE.out; simp only [List.length_append, List.length_cons, List.length_nil]; omega) w
      simp only [List.cons_append, List.nil_append] at cB
      clear h7 h8
      go_wp2_with fail
      go_ret
      exact ⟨by simp, hbel.out⟩
 · subst hk
   have hT : operX (sumT h) (Ex.mk 7 n d u oa bb o cap kids).c = [109, 97, 120, 40] ++ cpieces (sumT h) 0 (kids.map Ex.c) ++ [41] := by
    rw [Ex.c_mk, operX_max]
   rw [hT] at hlen ⊢
   clear hT h24
   have hwk : Wk (h + 1) (Ex.mk 7 n d u oa bb o cap kids).c := ⟨hwr.1, hwr.2.1⟩
   rw [Ex.c_mk] at hwk
   obtain ⟨h1, h2, h3, h4, h5, h6, h7, h8⟩ := hx
   have hsm : kids.length ≤ 9223372036854775807 := Nat.le_trans (Nat.le_trans h4 h5) (by decide)
   obtain ⟨X, hX⟩ : ∃ X, cpieces (sumT h) 0 (kids.map Ex.c) = X := ⟨_, rfl⟩
   rw [hX] at hlen ⊢
   simp only [List.length_append, List.length_cons, List.length_nil] at hlen
   rw [xv_mk]
   obtain ⟨L, hL⟩ : ∃ L, kids.length = L := ⟨_, rfl⟩
   rw [hL] at hsm h4 h7 ⊢
   have HL := Lib.hid hL
   have HWK := Lib.hid hwk
   have HP := Lib.hid HS
   have HPW := Lib.hid hpw
   have HX0 := Lib.hid (show [] ++ cpieces (sumT h) 0 ((kids.map Ex.c).drop 0) = X from hX)
   have HNE := Lib.hid hlen
   have c0 := fun w => run_cat_max [109, 97, 120] [40] (by decide) w
   simp only [List.cons_append, List.nil_append] at c0
   clear hlen hX hL hwr hwk h1 h2 h3 h5 h6 HS hpw
   go_enter Tryz.func28, Tryz.ntmps28
   go_wp2_with fail
   go_loopg [6, 43] L (fun kk s6 s43 wr => ∃ (i : Nat) (D : List UInt8), s6 = .string ⟨([109, 97, 120, 40] ++ D).toArray⟩ ∧ s43 = .int .i64 i ∧ Hid (Gk w wr 27 #[.int .i64 7, .int .i64 n, .int .i64 d, .int .i64 u, .slice oa L cap]) ∧ i ≤ L ∧ Hid (D ++ cpieces (sumT h) i ((kids.map Ex.c).drop i) = X) ∧ L - i ≤ kk)
   case atStart => exact ⟨0, [], rfl, rfl, Lib.hid ⟨below_box _ _, Blk.new _ _ _⟩, Nat.zero_le _, HX0, by omega⟩
   case round =>
    obtain ⟨i, D, rfl, rfl, hg, hle, hY, hk2⟩ := hrel
    have hbel := Lib.hid hg.out.below
    clear c0
    by_cases hi : i < L
    · have gi : decide ((i : Int) < (L : Int)) = true := by simpa using hi
      have gin : decide (i < L) = true := by simpa using hi
      have hil : i < kids.length := by rw [HL.out]; exact hi
      have hr : kids[i]? = some kids[i] := List.getElem?_eq_getElem hil
      have hx := h8 i _ hr
      have hdr : (kids.map Ex.c).drop i = kids[i].c :: (kids.map Ex.c).drop (i + 1) := by
       rw [← List.map_drop, List.drop_eq_getElem_cons hil, List.map_cons, List.map_drop]
      have hci : (kids.map Ex.c)[i]? = some kids[i].c := by rw [List.getElem?_map, hr]; rfl
      have hsame := HWK.out.same (by decide) hci (fun _ e => by revert e; decide) (fun _ e => by revert e; decide)
      obtain ⟨rfl, hbl⟩ := h7 (by omega)
      generalize kids[i] = x at *
      have hlaw := hY.out
      rw [cpieces_drop hdr] at hlaw
      clear hr hil hci hdr h7 h8 hY
      have hall := fun wx hb hl => HP.out x wx ⟨hx.2.below (w' := wx) _ hb, hsame⟩ (HPW.out.below hb) hl
      obtain ⟨E, hE⟩ : ∃ E, sumT h x.c = E := ⟨_, rfl⟩
      rw [hE] at hall hlaw
      obtain ⟨k', n', d', u', oa', b', o', cap', kids'⟩ := x
      obtain ⟨L', hL'⟩ : ∃ L', kids'.length = L' := ⟨_, rfl⟩
      have f0 : wr.cell? ⟨bb, o + i * 5, none⟩ = some (.int .i64 k') := (hbel.out.cell hbl).trans (hx.1 0 _ rfl)
      have f1 : wr.cell? ⟨bb, o + i * 5 + 1, none⟩ = some (.int .i64 n') := (hbel.out.cell hbl).trans (hx.1 1 _ rfl)
      have f2 : wr.cell? ⟨bb, o + i * 5 + 2, none⟩ = some (.int .i64 d') := (hbel.out.cell hbl).trans (hx.1 2 _ rfl)
      have f3 : wr.cell? ⟨bb, o + i * 5 + 3, none⟩ = some (.int .i64 u') := (hbel.out.cell hbl).trans (hx.1 3 _ rfl)
      have f4 : wr.cell? ⟨bb, o + i * 5 + 4, none⟩ = some (.slice oa' L' cap') := by rw [← hL']; exact (hbel.out.cell hbl).trans (hx.1 4 _ rfl)
      rw [xv_mk, hL'] at hall
      have HALL := Lib.hid hall
      have HLW := Lib.hid hlaw
      clear hx hsame hall hlaw hE hL'
      go_upto_region 17 with fail
      have HB7 := Lib.hid (hbel.out.alloc hbel.out.size (.cells #[.int .i64 k', .int .i64 n', .int .i64 d', .int .i64 u', .slice oa' L' cap'] 27))
      have hk7 := Blk.new wr 27 #[.int .i64 k', .int .i64 n', .int .i64 d', .int .i64 u', .slice oa' L' cap']
      have HX7 := Lib.hid (hg.out.box.old (.cells #[.int .i64 k', .int .i64 n', .int .i64 d', .int .i64 u', .slice oa' L' cap'] 27))
      obtain ⟨g7, hg7⟩ : ∃ g7, wr.heap.size = g7 := ⟨_, rfl⟩
      rw [hg7] at hk7
      simp only [hg7]
      clear hg7 f0 f1 f2 f3 f4
      generalize wr.alloc _ = w7 at *
      obtain ⟨cg0, fcg0, cg1, fcg1, cg2, fcg2, cg3, fcg3, cg4, fcg4, lcg⟩ := Blk.five (hk7)
      clear hk7
      by_cases hi0 : i = 0
      · have ge : decide ((i : Int) > (0 : Int)) = false := by simp; omega
        have ge2 : decide ((0 : Int) < (i : Int)) = false := by simp; omega
        have ge3 : decide (0 < i) = false := by simp; omega
        have hlw2 := HLW.out
        rw [if_pos hi0] at hlw2
        have hln := HNE.out
        rw [← hlw2] at hln
        simp only [List.length_append, List.length_cons, List.length_nil] at hln
        have hcall := HALL.out w7 HB7.out (by omega)
        have HLW := Lib.hid hlw2
        have HCALL := Lib.hid hcall
        have cB := fun w => run_cat_max ([109, 97, 120, 40] ++ D) E (by simp only [List.length_append, List.length_cons, List.length_nil]; omega) w
        simp only [List.cons_append, List.nil_append] at cB
        clear hcall hlw2 hi0 hln
        go_wp2_with fail
        ((with_reducible refine HCALL.out.mono ?_); rintro e w' ⟨rfl, hbw⟩)
        have HB9 := Lib.hid (HB7.out.trans (hbw.mono HB7.out.size))
        have HX9 := Lib.hid (HX7.out.below hbw HX7.out.lt)
        clear hbw
        go_wp2_with fail
        go_roundg (L - (i + 1))
        case measure => omega
        case rel => exact ⟨i + 1, D ++ E, by simp, by go_num, Lib.hid ⟨HB9.out, HX9.out⟩, hi, Lib.hid (by have := HLW.out; first | exact this | simpa only [List.append_assoc] using this), Nat.le_refl _⟩
      · have ge : decide ((i : Int) > (0 : Int)) = true := by simp; omega
        have ge2 : decide ((0 : Int) < (i : Int)) = true := by simp; omega
        have ge3 : decide (0 < i) = true := by simp; omega
        have hlw2 := HLW.out
        rw [if_neg hi0] at hlw2
        have hln := HNE.out
        rw [← hlw2] at hln
        simp only [List.length_append, List.length_cons, List.length_nil] at hln
        have hcall := HALL.out w7 HB7.out (by omega)
        have HLW := Lib.hid hlw2
        have HCALL := Lib.hid hcall
        have cA := fun w => run_cat_max ([109, 97, 120, 40] ++ D) [44, 32] (by simp only [List.length_append, List.length_cons, List.length_nil]; omega) w
        have cB := fun w => run_cat_max ([109, 97, 120, 40] ++ D ++ [44, 32]) E (by simp only [List.length_append, List.length_cons, List.length_nil]; omega) w
        simp only [List.cons_append, List.nil_append] at cA cB
        clear hcall hlw2 hi0 hln
        go_wp2_with fail
        ((with_reducible refine HCALL.out.mono ?_); rintro e w' ⟨rfl, hbw⟩)
        have HB9 := Lib.hid (HB7.out.trans (hbw.mono HB7.out.size))
        have HX9 := Lib.hid (HX7.out.below hbw HX7.out.lt)
        clear hbw
        go_wp2_with fail
        go_roundg (L - (i + 1))
        case measure => omega
        case rel => exact ⟨i + 1, D ++ ([44, 32] ++ E), by simp, by go_num, Lib.hid ⟨HB9.out, HX9.out⟩, hi, Lib.hid (by have := HLW.out; first | exact this | simpa only [List.append_assoc] using this), Nat.le_refl _⟩
    · obtain rfl : i = L := by omega
      have gi : decide ((i : Int) < (i : Int)) = false := by simp
      have gin : decide (i < i) = false := by simp
      have hD2 : D = X := by
       have := hY.out
       rw [List.drop_eq_nil_of_le (by rw [List.length_map, HL.out]; exact Nat.le_refl _)] at this
       simpa [cpieces] using this
      subst hD2
      have cB := fun w => run_cat_max ([109, 97, 120, 40] ++ D) [41] (by have := HNE.out; simp only [List.length_append, List.length_cons, List.length_nil]; omega) w
      simp only [List.cons_append, List.nil_append] at cB
      clear h7 h8
      go_wp2_with fail
      go_ret
      exact ⟨by simp, hbel.out⟩
 · subst hk
   have hT : operX (sumT h) (Ex.mk 8 n d u oa bb o cap kids).c = [99, 108, 97, 109, 112, 40] ++ cpieces (sumT h) 0 (kids.map Ex.c) ++ [41] := by
    rw [Ex.c_mk, operX_clamp]
   rw [hT] at hlen ⊢
   clear hT h24
   have hwk : Wk (h + 1) (Ex.mk 8 n d u oa bb o cap kids).c := ⟨hwr.1, hwr.2.1⟩
   rw [Ex.c_mk] at hwk
   obtain ⟨h1, h2, h3, h4, h5, h6, h7, h8⟩ := hx
   have hsm : kids.length ≤ 9223372036854775807 := Nat.le_trans (Nat.le_trans h4 h5) (by decide)
   obtain ⟨X, hX⟩ : ∃ X, cpieces (sumT h) 0 (kids.map Ex.c) = X := ⟨_, rfl⟩
   rw [hX] at hlen ⊢
   simp only [List.length_append, List.length_cons, List.length_nil] at hlen
   rw [xv_mk]
   obtain ⟨L, hL⟩ : ∃ L, kids.length = L := ⟨_, rfl⟩
   rw [hL] at hsm h4 h7 ⊢
   have HL := Lib.hid hL
   have HWK := Lib.hid hwk
   have HP := Lib.hid HS
   have HPW := Lib.hid hpw
   have HX0 := Lib.hid (show [] ++ cpieces (sumT h) 0 ((kids.map Ex.c).drop 0) = X from hX)
   have HNE := Lib.hid hlen
   have c0 := fun w => run_cat_max [99, 108, 97, 109, 112] [40] (by decide) w
   simp only [List.cons_append, List.nil_append] at c0
   clear hlen hX hL hwr hwk h1 h2 h3 h5 h6 HS hpw
   go_enter Tryz.func28, Tryz.ntmps28
   go_wp2_with fail
   go_loopg [6, 43] L (fun kk s6 s43 wr => ∃ (i : Nat) (D : List UInt8), s6 = .string ⟨([99, 108, 97, 109, 112, 40] ++ D).toArray⟩ ∧ s43 = .int .i64 i ∧ Hid (Gk w wr 27 #[.int .i64 8, .int .i64 n, .int .i64 d, .int .i64 u, .slice oa L cap]) ∧ i ≤ L ∧ Hid (D ++ cpieces (sumT h) i ((kids.map Ex.c).drop i) = X) ∧ L - i ≤ kk)
   case atStart => exact ⟨0, [], rfl, rfl, Lib.hid ⟨below_box _ _, Blk.new _ _ _⟩, Nat.zero_le _, HX0, by omega⟩
   case round =>
    obtain ⟨i, D, rfl, rfl, hg, hle, hY, hk2⟩ := hrel
    have hbel := Lib.hid hg.out.below
    clear c0
    by_cases hi : i < L
    · have gi : decide ((i : Int) < (L : Int)) = true := by simpa using hi
      have gin : decide (i < L) = true := by simpa using hi
      have hil : i < kids.length := by rw [HL.out]; exact hi
      have hr : kids[i]? = some kids[i] := List.getElem?_eq_getElem hil
      have hx := h8 i _ hr
      have hdr : (kids.map Ex.c).drop i = kids[i].c :: (kids.map Ex.c).drop (i + 1) := by
       rw [← List.map_drop, List.drop_eq_getElem_cons hil, List.map_cons, List.map_drop]
      have hci : (kids.map Ex.c)[i]? = some kids[i].c := by rw [List.getElem?_map, hr]; rfl
      have hsame := HWK.out.same (by decide) hci (fun _ e => by revert e; decide) (fun _ e => by revert e; decide)
      obtain ⟨rfl, hbl⟩ := h7 (by omega)
      generalize kids[i] = x at *
      have hlaw := hY.out
      rw [cpieces_drop hdr] at hlaw
      clear hr hil hci hdr h7 h8 hY
      have hall := fun wx hb hl => HP.out x wx ⟨hx.2.below (w' := wx) _ hb, hsame⟩ (HPW.out.below hb) hl
      obtain ⟨E, hE⟩ : ∃ E, sumT h x.c = E := ⟨_, rfl⟩
      rw [hE] at hall hlaw
      obtain ⟨k', n', d', u', oa', b', o', cap', kids'⟩ := x
      obtain ⟨L', hL'⟩ : ∃ L', kids'.length = L' := ⟨_, rfl⟩
      have f0 : wr.cell? ⟨bb, o + i * 5, none⟩ = some (.int .i64 k') := (hbel.out.cell hbl).trans (hx.1 0 _ rfl)
      have f1 : wr.cell? ⟨bb, o + i * 5 + 1, none⟩ = some (.int .i64 n') := (hbel.out.cell hbl).trans (hx.1 1 _ rfl)
      have f2 : wr.cell? ⟨bb, o + i * 5 + 2, none⟩ = some (.int .i64 d') := (hbel.out.cell hbl).trans (hx.1 2 _ rfl)
      have f3 : wr.cell? ⟨bb, o + i * 5 + 3, none⟩ = some (.int .i64 u') := (hbel.out.cell hbl).trans (hx.1 3 _ rfl)
      have f4 : wr.cell? ⟨bb, o + i * 5 + 4, none⟩ = some (.slice oa' L' cap') := by rw [← hL']; exact (hbel.out.cell hbl).trans (hx.1 4 _ rfl)
      rw [xv_mk, hL'] at hall
      have HALL := Lib.hid hall
      have HLW := Lib.hid hlaw
      clear hx hsame hall hlaw hE hL'
      go_upto_region 17 with fail
      have HB7 := Lib.hid (hbel.out.alloc hbel.out.size (.cells #[.int .i64 k', .int .i64 n', .int .i64 d', .int .i64 u', .slice oa' L' cap'] 27))
      have hk7 := Blk.new wr 27 #[.int .i64 k', .int .i64 n', .int .i64 d', .int .i64 u', .slice oa' L' cap']
      have HX7 := Lib.hid (hg.out.box.old (.cells #[.int .i64 k', .int .i64 n', .int .i64 d', .int .i64 u', .slice oa' L' cap'] 27))
      obtain ⟨g7, hg7⟩ : ∃ g7, wr.heap.size = g7 := ⟨_, rfl⟩
      rw [hg7] at hk7
      simp only [hg7]
      clear hg7 f0 f1 f2 f3 f4
      generalize wr.alloc _ = w7 at *
      obtain ⟨cg0, fcg0, cg1, fcg1, cg2, fcg2, cg3, fcg3, cg4, fcg4, lcg⟩ := Blk.five (hk7)
      clear hk7
      by_cases hi0 : i = 0
      · have ge : decide ((i : Int) > (0 : Int)) = false := by simp; omega
        have ge2 : decide ((0 : Int) < (i : Int)) = false := by simp; omega
        have ge3 : decide (0 < i) = false := by simp; omega
        have hlw2 := HLW.out
        rw [if_pos hi0] at hlw2
        have hln := HNE.out
        rw [← hlw2] at hln
        simp only [List.length_append, List.length_cons, List.length_nil] at hln
        have hcall := HALL.out w7 HB7.out (by omega)
        have HLW := Lib.hid hlw2
        have HCALL := Lib.hid hcall
        have cB := fun w => run_cat_max ([99, 108, 97, 109, 112, 40] ++ D) E (by simp only [List.length_append, List.length_cons, List.length_nil]; omega) w
        simp only [List.cons_append, List.nil_append] at cB
        clear hcall hlw2 hi0 hln
        go_wp2_with fail
        ((with_reducible refine HCALL.out.mono ?_); rintro e w' ⟨rfl, hbw⟩)
        have HB9 := Lib.hid (HB7.out.trans (hbw.mono HB7.out.size))
        have HX9 := Lib.hid (HX7.out.below hbw HX7.out.lt)
        clear hbw
        go_wp2_with fail
        go_roundg (L - (i + 1))
        case measure => omega
        case rel => exact ⟨i + 1, D ++ E, by simp, by go_num, Lib.hid ⟨HB9.out, HX9.out⟩, hi, Lib.hid (by have := HLW.out; first | exact this | simpa only [List.append_assoc] using this), Nat.le_refl _⟩
      · have ge : decide ((i : Int) > (0 : Int)) = true := by simp; omega
        have ge2 : decide ((0 : Int) < (i : Int)) = true := by simp; omega
        have ge3 : decide (0 < i) = true := by simp; omega
        have hlw2 := HLW.out
        rw [if_neg hi0] at hlw2
        have hln := HNE.out
        rw [← hlw2] at hln
        simp only [List.length_append, List.length_cons, List.length_nil] at hln
        have hcall := HALL.out w7 HB7.out (by omega)
        have HLW := Lib.hid hlw2
        have HCALL := Lib.hid hcall
        have cA := fun w => run_cat_max ([99, 108, 97, 109, 112, 40] ++ D) [44, 32] (by simp only [List.length_append, List.length_cons, List.length_nil]; omega) w
        have cB := fun w => run_cat_max ([99, 108, 97, 109, 112, 40] ++ D ++ [44, 32]) E (by simp only [List.length_append, List.length_cons, List.length_nil]; omega) w
        simp only [List.cons_append, List.nil_append] at cA cB
        clear hcall hlw2 hi0 hln
        go_wp2_with fail
        ((with_reducible refine HCALL.out.mono ?_); rintro e w' ⟨rfl, hbw⟩)
        have HB9 := Lib.hid (HB7.out.trans (hbw.mono HB7.out.size))
        have HX9 := Lib.hid (HX7.out.below hbw HX7.out.lt)
        clear hbw
        go_wp2_with fail
        go_roundg (L - (i + 1))
        case measure => omega
        case rel => exact ⟨i + 1, D ++ ([44, 32] ++ E), by simp, by go_num, Lib.hid ⟨HB9.out, HX9.out⟩, hi, Lib.hid (by have := HLW.out; first | exact this | simpa only [List.append_assoc] using this), Nat.le_refl _⟩
    · obtain rfl : i = L := by omega
      have gi : decide ((i : Int) < (i : Int)) = false := by simp
      have gin : decide (i < i) = false := by simp
      have hD2 : D = X := by
       have := hY.out
       rw [List.drop_eq_nil_of_le (by rw [List.length_map, HL.out]; exact Nat.le_refl _)] at this
       simpa [cpieces] using this
      subst hD2
      have cB := fun w => run_cat_max ([99, 108, 97, 109, 112, 40] ++ D) [41] (by have := HNE.out; simp only [List.length_append, List.length_cons, List.length_nil]; omega) w
      simp only [List.cons_append, List.nil_append] at cB
      clear h7 h8
      go_wp2_with fail
      go_ret
      exact ⟨by simp, hbel.out⟩
theorem rsum_all : ∀ h, RSumAt h
 | 0 => fun _ _ hC => hC.1.elim
 | h + 1 => rsum_step h (rproduct_step h (roper_step h (rsum_all h)))
end Go.Proofs.YtplnhjmomomphaaGreatDoor
