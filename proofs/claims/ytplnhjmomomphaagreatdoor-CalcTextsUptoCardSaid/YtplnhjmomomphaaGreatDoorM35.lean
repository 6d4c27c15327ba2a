/- Of my texts: TextD. -/
import Derived.Test.YtplnhjmomomphaaGreatDoorM32
namespace Go.Proofs.YtplnhjmomomphaaGreatDoor
set_option linter.unusedVariables false
set_option linter.unusedSimpArgs false
open Go.RowKit
theorem kidR_3 {k : Int} {i : Nat} {x : Et} (h : x.kind = 3) : kidR k i x = decide (k = 2 ∧ 0 < i) := by
 unfold kidR
 simp [h]
theorem kidR_5 {k : Int} {i : Nat} {x : Et} (h : x.kind = 5) : kidR k i x = decide (k = 4 ∧ 0 < i) := by
 unfold kidR
 simp [h]
theorem kidR_0 {k : Int} {i : Nat} {x : Et} (h3 : x.kind ≠ 3) (h5 : x.kind ≠ 5) : kidR k i x = true := by
 unfold kidR
 simp [h3, h5]
set_option maxRecDepth 20000 in
set_option maxHeartbeats 8000000 in
theorem rshaped_any : ∀ (h : Nat) (e : Ex) (w : World), ExIn w h e → Pow10 w →
 Calls Tryz.prog 26 #[xv e] w fun x w' => x = .returned (.bool (shapeR h e.c)) ∧ Below w.heap.size w w' := by
 intro h
 induction h with
 | zero => exact fun _ _ h => h.elim
 | succ h ih =>
   intro e w hx hd
   obtain ⟨k, n, d, u, oa, b, o, cap, kids⟩ := e
   obtain ⟨h1, h2, h3, h4, h5, h6, h7, h8⟩ := hx
   have hsm : kids.length ≤ 9223372036854775807 := Nat.le_trans (Nat.le_trans h4 h5) (by decide)
   have HIH := Lib.hid ih
   have HD := Lib.hid hd
   obtain ⟨K, hK⟩ : ∃ K, shapeR (h + 1) (Ex.mk k n d u oa b o cap kids).c = K := ⟨_, rfl⟩
   have hK2 := hK
   rw [Ex.c_mk, shapeR_L, List.length_map] at hK2
   clear ih h1 h3 h6 hd
   rw [xv_mk, hK]
   clear hK
   obtain ⟨L, hL⟩ : ∃ L, kids.length = L := ⟨_, rfl⟩
   rw [hL] at hsm h4 h7 hK2 ⊢
   have HL := Lib.hid hL
   clear hL
   by_cases hk1 : k = 1
   · subst hk1
     by_cases hd0 : d = 0
     · subst hd0
       have HS := Lib.hid (show K = shapeRL h 1 0 (kids.map Ex.c) from by
        rw [← hK2]
        show (true && (if (1 : Int) = 1 ∧ (0 : Int) ≠ 0 then _ else true) && _) = _
        rw [if_neg (by simp)]
        rfl)
       clear hK2 h2
       go_enter Tryz.func26, Tryz.ntmps26
       have HY0 := Lib.hid (show K = shapeRL h 1 0 ((kids.map Ex.c).drop 0) from by rw [List.drop_zero]; exact HS.out)
       have HG0 := Lib.hid (show Gk w (w.alloc (.cells #[.int .i64 1, .int .i64 n, .int .i64 0, .int .i64 u, .slice oa L cap] 27)) 27 #[.int .i64 1, .int .i64 n, .int .i64 0, .int .i64 u, .slice oa L cap] from ⟨below_box _ _, Blk.new _ _ _⟩)
       go_wp2_with fail
       go_loopg [47] L (fun kk s47 wr => ∃ (i : Nat), s47 = .int .i64 i ∧ Hid (Gk w wr 27 #[.int .i64 1, .int .i64 n, .int .i64 0, .int .i64 u, .slice oa L cap]) ∧ i ≤ L ∧ Hid (K = shapeRL h 1 i ((kids.map Ex.c).drop i)) ∧ L - i ≤ kk)
       case atStart => exact ⟨0, rfl, HG0, Nat.zero_le _, HY0, by omega⟩
       case round =>
        obtain ⟨i, rfl, hg, hle, hY, hk2⟩ := hrel
        have hbel := Lib.hid hg.out.below
        by_cases hi : i < L
        · have gi : decide ((i : Int) < (L : Int)) = true := by simpa using hi
          have gin : decide (i < L) = true := by simpa using hi
          have hil : i < kids.length := by rw [HL.out]; exact hi
          have hr : kids[i]? = some kids[i] := List.getElem?_eq_getElem hil
          have hx := h8 i _ hr
          have hdr : (kids.map Ex.c).drop i = kids[i].c :: (kids.map Ex.c).drop (i + 1) := by
           rw [← List.map_drop, List.drop_eq_getElem_cons hil, List.map_cons, List.map_drop]
          obtain ⟨rfl, hbl⟩ := h7 (by omega)
          generalize kids[i] = x at *
          clear hr hil
          have hX := fun wx hb hd => HIH.out x wx (hx.2.below (w' := wx) _ hb) hd
          obtain ⟨M, hM⟩ : ∃ M, shapeR h x.c = M := ⟨_, rfl⟩
          obtain ⟨R, hR⟩ : ∃ R, (!kidR 1 i x.c) = R := ⟨_, rfl⟩
          have hR2 : kidR 1 i x.c = !R := by rw [← hR, Bool.not_not]
          rw [hM] at hX
          have hlaw := hY.out
          rw [shapeRL_drop hdr, hR2, hM] at hlaw
          obtain ⟨k', n', d', u', oa', b', o', cap', kids'⟩ := x
          rw [Ex.c_mk] at hR
          obtain ⟨K', hK'⟩ : ∃ K', kids'.length = K' := ⟨_, rfl⟩
          simp only [xv_mk, hK'] at hX
          have HX := Lib.hid hX
          have f0 : wr.cell? ⟨b, o + i * 5, none⟩ = some (.int .i64 k') := (hbel.out.cell hbl).trans (hx.1 0 _ rfl)
          have f1 : wr.cell? ⟨b, o + i * 5 + 1, none⟩ = some (.int .i64 n') := (hbel.out.cell hbl).trans (hx.1 1 _ rfl)
          have f2 : wr.cell? ⟨b, o + i * 5 + 2, none⟩ = some (.int .i64 d') := (hbel.out.cell hbl).trans (hx.1 2 _ rfl)
          have f3 : wr.cell? ⟨b, o + i * 5 + 3, none⟩ = some (.int .i64 u') := (hbel.out.cell hbl).trans (hx.1 3 _ rfl)
          have f4 : wr.cell? ⟨b, o + i * 5 + 4, none⟩ = some (.slice oa' K' cap') := by rw [← hK']; exact (hbel.out.cell hbl).trans (hx.1 4 _ rfl)
          have HLW := Lib.hid hlaw
          have HR := Lib.hid hR
          clear hx hlaw hY hdr h8 h7 hX hM hK' hR hR2
          go_upto_region 11 with fail
          have HB7 := Lib.hid (hbel.out.alloc hbel.out.size (.cells #[.int .i64 k', .int .i64 n', .int .i64 d', .int .i64 u', .slice oa' K' cap'] 27))
          have hk7 := Blk.new wr 27 #[.int .i64 k', .int .i64 n', .int .i64 d', .int .i64 u', .slice oa' K' cap']
          have HX7 := Lib.hid (hg.out.box.old (.cells #[.int .i64 k', .int .i64 n', .int .i64 d', .int .i64 u', .slice oa' K' cap'] 27))
          have hbx := HX7.out
          obtain ⟨g7, hg7⟩ : ∃ g7, wr.heap.size = g7 := ⟨_, rfl⟩
          rw [hg7] at hk7
          simp only [hg7]
          clear hg7 f0 f1 f2 f3 f4
          generalize wr.alloc _ = w7 at *
          obtain ⟨cg0, fcg0, cg1, fcg1, cg2, fcg2, cg3, fcg3, cg4, fcg4, lcg⟩ := Blk.five (hk7)
          obtain ⟨cf0, fcf0, cf1, fcf1, cf2, fcf2, cf3, fcf3, cf4, fcf4, lcf⟩ := Blk.five (hbx)
          clear hk7 hbx
          go_cut [77] from 52 to 77 (fun s wx => s = .bool R ∧ wx = w7)
          case first =>
           by_cases hk3 : k' = 3
           · subst hk3
             have HV := Lib.hid (show R = true from by rw [← HR.out, kidR_3 rfl]; (rw [decide_eq_false (by omega)]; rfl))
             go_wp2_with fail
             go_meet
             exact ⟨by rw [HV.out], rfl⟩
           by_cases hk5 : k' = 5
           · subst hk5
             have HV := Lib.hid (show R = true from by rw [← HR.out, kidR_5 rfl]; (rw [decide_eq_false (by omega)]; rfl))
             go_wp2_with fail
             go_meet
             exact ⟨by rw [HV.out], rfl⟩
           have q3 : (k' == 3) = false := by simpa using hk3
           have q5 : (k' == 5) = false := by simpa using hk5
           have HV := Lib.hid (show R = false from by rw [← HR.out, kidR_0 (x := .mk k' n' d' u' (kids'.map Ex.c)) hk3 hk5]; rfl)
           clear hk3 hk5
           go_wp2_with fail
           go_meet
           exact ⟨by rw [HV.out], rfl⟩
          case rest =>
           obtain ⟨rfl, rfl⟩ := hcut
           cases R with
           | true =>
             have hK0 := Lib.hid (show K = false from by have := HLW.out; simpa using this)
             go_wp2_with fail
             go_ret
             exact ⟨ret_bool hK0.out.symm, HB7.out⟩
           | false =>
             cases M with
             | false =>
               go_wp2_with fail
               ((with_reducible refine (HX.out _ HB7.out (HD.out.below HB7.out)).mono ?_); rintro e w' ⟨rfl, hbw⟩)
               obtain ⟨m, rfl⟩ := grow_mk hbw
               clear hbw
               have hK0 := Lib.hid (show K = false from by have := HLW.out; simpa using this)
               go_wp2_with fail
               go_ret
               exact ⟨ret_bool hK0.out.symm, below_grow HB7.out m⟩
             | true =>
               go_wp2_with fail
               ((with_reducible refine (HX.out _ HB7.out (HD.out.below HB7.out)).mono ?_); rintro e w' ⟨rfl, hbw⟩)
               obtain ⟨m, rfl⟩ := grow_mk hbw
               clear hbw
               go_wp2_with fail
               go_roundg (L - (i + 1))
               case measure => omega
               case rel => exact ⟨i + 1, by go_num, Lib.hid ⟨below_grow HB7.out m, HX7.out.grow m⟩, hi, Lib.hid (by have := HLW.out; simpa using this), Nat.le_refl _⟩
        · obtain rfl : i = L := by omega
          have gi : decide ((i : Int) < (i : Int)) = false := by simp
          have gin : decide (i < i) = false := by simp
          have hKf : K = true := by
           rw [hY.out, List.drop_eq_nil_of_le (by rw [List.length_map, HL.out]; exact Nat.le_refl _)]
           rfl
          have HKf := Lib.hid hKf
          clear hKf hY h8 h7
          go_wp2_with fail
          go_ret
          exact ⟨ret_bool HKf.out.symm, hbel.out⟩
     · have g1 : (d == 0) = false := by simpa using hd0
       have g2 : (d != 0) = true := by simpa using hd0
       have c1 := fun w hd => rplain_any (n, d) (d == 1) w h2 hd
       obtain ⟨s, c, hP, _, hc⟩ := out_parts (plainF (n, d) (d == 1))
       simp only [rv, hP] at c1
       obtain ⟨F, hF⟩ : ∃ F, (plainF (n, d) (d == 1)).isSome = F := ⟨_, rfl⟩
       rw [hF] at hc
       have hS : K = (F && shapeRL h 1 0 (kids.map Ex.c)) := by
        rw [← hK2, ← hF]
        show (true && (if (1 : Int) = 1 ∧ d ≠ 0 then _ else true) && _) = _
        rw [if_pos ⟨rfl, hd0⟩]
        rfl
       have C1 := Lib.hid c1
       clear c1 hP hF hK2 h2 hd0
       cases F with
       | false =>
         have HF := Lib.hid (show K = false from hS)
         clear hS h7 h8 HIH
         go_enter Tryz.func26, Tryz.ntmps26
         go_wp2_with fail
         ((with_reducible refine (C1.out _ (HD.out.below (below_box _ _))).mono ?_); rintro e w' ⟨rfl, hbw⟩)
         obtain ⟨m1, rfl⟩ := grow_mk hbw
         clear hbw
         go_wp2_with fail
         go_ret
         exact ⟨ret_bool HF.out.symm, below_grow (below_box _ _) m1⟩
       | true =>
         have HS := Lib.hid (show K = shapeRL h 1 0 (kids.map Ex.c) from hS)
         clear hS
         go_enter Tryz.func26, Tryz.ntmps26
         go_wp2_with fail
         ((with_reducible refine (C1.out _ (HD.out.below (below_box _ _))).mono ?_); rintro e w' ⟨rfl, hbw⟩)
         obtain ⟨m1, rfl⟩ := grow_mk hbw
         clear hbw
         have hb1 := below_box w (.cells #[.int .i64 1, .int .i64 n, .int .i64 d, .int .i64 u, .slice oa L cap] 27)
         have hx1 := Blk.new w 27 #[.int .i64 1, .int .i64 n, .int .i64 d, .int .i64 u, .slice oa L cap]
         replace hb1 := below_grow hb1 m1
         replace hx1 := hx1.grow m1
         generalize grow _ m1 = w1 at *
         obtain ⟨ca0, fca0, ca1, fca1, ca2, fca2, ca3, fca3, ca4, fca4, lca⟩ := Blk.five (hx1)
         have HY0 := Lib.hid (show K = shapeRL h 1 0 ((kids.map Ex.c).drop 0) from by rw [List.drop_zero]; exact HS.out)
         have HG0 := Lib.hid (show Gk w w1 27 #[.int .i64 1, .int .i64 n, .int .i64 d, .int .i64 u, .slice oa L cap] from ⟨hb1, hx1⟩)
         go_wp2_with fail
         go_loopg [47] L (fun kk s47 wr => ∃ (i : Nat), s47 = .int .i64 i ∧ Hid (Gk w wr 27 #[.int .i64 1, .int .i64 n, .int .i64 d, .int .i64 u, .slice oa L cap]) ∧ i ≤ L ∧ Hid (K = shapeRL h 1 i ((kids.map Ex.c).drop i)) ∧ L - i ≤ kk)
         case atStart => exact ⟨0, rfl, HG0, Nat.zero_le _, HY0, by omega⟩
         case round =>
          obtain ⟨i, rfl, hg, hle, hY, hk2⟩ := hrel
          have hbel := Lib.hid hg.out.below
          by_cases hi : i < L
          · have gi : decide ((i : Int) < (L : Int)) = true := by simpa using hi
            have gin : decide (i < L) = true := by simpa using hi
            have hil : i < kids.length := by rw [HL.out]; exact hi
            have hr : kids[i]? = some kids[i] := List.getElem?_eq_getElem hil
            have hx := h8 i _ hr
            have hdr : (kids.map Ex.c).drop i = kids[i].c :: (kids.map Ex.c).drop (i + 1) := by
             rw [← List.map_drop, List.drop_eq_getElem_cons hil, List.map_cons, List.map_drop]
            obtain ⟨rfl, hbl⟩ := h7 (by omega)
            generalize kids[i] = x at *
            clear hr hil
            have hX := fun wx hb hd => HIH.out x wx (hx.2.below (w' := wx) _ hb) hd
            obtain ⟨M, hM⟩ : ∃ M, shapeR h x.c = M := ⟨_, rfl⟩
            obtain ⟨R, hR⟩ : ∃ R, (!kidR 1 i x.c) = R := ⟨_, rfl⟩
            have hR2 : kidR 1 i x.c = !R := by rw [← hR, Bool.not_not]
            rw [hM] at hX
            have hlaw := hY.out
            rw [shapeRL_drop hdr, hR2, hM] at hlaw
            obtain ⟨k', n', d', u', oa', b', o', cap', kids'⟩ := x
            rw [Ex.c_mk] at hR
            obtain ⟨K', hK'⟩ : ∃ K', kids'.length = K' := ⟨_, rfl⟩
            simp only [xv_mk, hK'] at hX
            have HX := Lib.hid hX
            have f0 : wr.cell? ⟨b, o + i * 5, none⟩ = some (.int .i64 k') := (hbel.out.cell hbl).trans (hx.1 0 _ rfl)
            have f1 : wr.cell? ⟨b, o + i * 5 + 1, none⟩ = some (.int .i64 n') := (hbel.out.cell hbl).trans (hx.1 1 _ rfl)
            have f2 : wr.cell? ⟨b, o + i * 5 + 2, none⟩ = some (.int .i64 d') := (hbel.out.cell hbl).trans (hx.1 2 _ rfl)
            have f3 : wr.cell? ⟨b, o + i * 5 + 3, none⟩ = some (.int .i64 u') := (hbel.out.cell hbl).trans (hx.1 3 _ rfl)
            have f4 : wr.cell? ⟨b, o + i * 5 + 4, none⟩ = some (.slice oa' K' cap') := by rw [← hK']; exact (hbel.out.cell hbl).trans (hx.1 4 _ rfl)
            have HLW := Lib.hid hlaw
            have HR := Lib.hid hR
            clear hx hlaw hY hdr h8 h7 hX hM hK' hR hR2
            go_upto_region 11 with fail
            have HB7 := Lib.hid (hbel.out.alloc hbel.out.size (.cells #[.int .i64 k', .int .i64 n', .int .i64 d', .int .i64 u', .slice oa' K' cap'] 27))
            have hk7 := Blk.new wr 27 #[.int .i64 k', .int .i64 n', .int .i64 d', .int .i64 u', .slice oa' K' cap']
            have HX7 := Lib.hid (hg.out.box.old (.cells #[.int .i64 k', .int .i64 n', .int .i64 d', .int .i64 u', .slice oa' K' cap'] 27))
            have hbx := HX7.out
            obtain ⟨g7, hg7⟩ : ∃ g7, wr.heap.size = g7 := ⟨_, rfl⟩
            rw [hg7] at hk7
            simp only [hg7]
            clear hg7 f0 f1 f2 f3 f4
            generalize wr.alloc _ = w7 at *
            obtain ⟨cg0, fcg0, cg1, fcg1, cg2, fcg2, cg3, fcg3, cg4, fcg4, lcg⟩ := Blk.five (hk7)
            obtain ⟨cf0, fcf0, cf1, fcf1, cf2, fcf2, cf3, fcf3, cf4, fcf4, lcf⟩ := Blk.five (hbx)
            clear hk7 hbx
            go_cut [77] from 52 to 77 (fun s wx => s = .bool R ∧ wx = w7)
            case first =>
             by_cases hk3 : k' = 3
             · subst hk3
               have HV := Lib.hid (show R = true from by rw [← HR.out, kidR_3 rfl]; (rw [decide_eq_false (by omega)]; rfl))
               go_wp2_with fail
               go_meet
               exact ⟨by rw [HV.out], rfl⟩
             by_cases hk5 : k' = 5
             · subst hk5
               have HV := Lib.hid (show R = true from by rw [← HR.out, kidR_5 rfl]; (rw [decide_eq_false (by omega)]; rfl))
               go_wp2_with fail
               go_meet
               exact ⟨by rw [HV.out], rfl⟩
             have q3 : (k' == 3) = false := by simpa using hk3
             have q5 : (k' == 5) = false := by simpa using hk5
             have HV := Lib.hid (show R = false from by rw [← HR.out, kidR_0 (x := .mk k' n' d' u' (kids'.map Ex.c)) hk3 hk5]; rfl)
             clear hk3 hk5
             go_wp2_with fail
             go_meet
             exact ⟨by rw [HV.out], rfl⟩
            case rest =>
             obtain ⟨rfl, rfl⟩ := hcut
             cases R with
             | true =>
               have hK0 := Lib.hid (show K = false from by have := HLW.out; simpa using this)
               go_wp2_with fail
               go_ret
               exact ⟨ret_bool hK0.out.symm, HB7.out⟩
             | false =>
               cases M with
               | false =>
                 go_wp2_with fail
                 ((with_reducible refine (HX.out _ HB7.out (HD.out.below HB7.out)).mono ?_); rintro e w' ⟨rfl, hbw⟩)
                 obtain ⟨m, rfl⟩ := grow_mk hbw
                 clear hbw
                 have hK0 := Lib.hid (show K = false from by have := HLW.out; simpa using this)
                 go_wp2_with fail
                 go_ret
                 exact ⟨ret_bool hK0.out.symm, below_grow HB7.out m⟩
               | true =>
                 go_wp2_with fail
                 ((with_reducible refine (HX.out _ HB7.out (HD.out.below HB7.out)).mono ?_); rintro e w' ⟨rfl, hbw⟩)
                 obtain ⟨m, rfl⟩ := grow_mk hbw
                 clear hbw
                 go_wp2_with fail
                 go_roundg (L - (i + 1))
                 case measure => omega
                 case rel => exact ⟨i + 1, by go_num, Lib.hid ⟨below_grow HB7.out m, HX7.out.grow m⟩, hi, Lib.hid (by have := HLW.out; simpa using this), Nat.le_refl _⟩
          · obtain rfl : i = L := by omega
            have gi : decide ((i : Int) < (i : Int)) = false := by simp
            have gin : decide (i < i) = false := by simp
            have hKf : K = true := by
             rw [hY.out, List.drop_eq_nil_of_le (by rw [List.length_map, HL.out]; exact Nat.le_refl _)]
             rfl
            have HKf := Lib.hid hKf
            clear hKf hY h8 h7
            go_wp2_with fail
            go_ret
            exact ⟨ret_bool HKf.out.symm, hbel.out⟩
   have gk1 : (k == 1) = false := by simpa using hk1
   have gn1 : numR k n d = true := if_neg (fun h => hk1 h.1)
   rw [gn1, Bool.and_true] at hK2
   clear hk1 h2 gn1
   by_cases hk2 : k = 2
   · subst hk2
     clear gk1
     by_cases hL2 : L < 2
     · have g2 : decide ((L : Int) < 2) = true := by simp; omega
       have HF := Lib.hid (show K = false from by
        rw [← hK2]
        unfold manyR
        rw [if_pos (by omega), decide_eq_false (by omega), Bool.false_and])
       clear hL2 hK2 h7 h8 HIH
       go_enter Tryz.func26, Tryz.ntmps26
       go_wp2_with fail
       go_ret
       exact ⟨ret_bool HF.out.symm, below_box _ _⟩
     · have g2 : decide ((L : Int) < 2) = false := by simp; omega
       have HS := Lib.hid (show K = shapeRL h 2 0 (kids.map Ex.c) from by
        rw [← hK2]
        unfold manyR
        rw [if_pos (by omega), decide_eq_true (by omega), Bool.true_and])
       clear hL2 hK2
       go_enter Tryz.func26, Tryz.ntmps26
       have HY0 := Lib.hid (show K = shapeRL h 2 0 ((kids.map Ex.c).drop 0) from by rw [List.drop_zero]; exact HS.out)
       have HG0 := Lib.hid (show Gk w (w.alloc (.cells #[.int .i64 2, .int .i64 n, .int .i64 d, .int .i64 u, .slice oa L cap] 27)) 27 #[.int .i64 2, .int .i64 n, .int .i64 d, .int .i64 u, .slice oa L cap] from ⟨below_box _ _, Blk.new _ _ _⟩)
       go_wp2_with fail
       go_loopg [47] L (fun kk s47 wr => ∃ (i : Nat), s47 = .int .i64 i ∧ Hid (Gk w wr 27 #[.int .i64 2, .int .i64 n, .int .i64 d, .int .i64 u, .slice oa L cap]) ∧ i ≤ L ∧ Hid (K = shapeRL h 2 i ((kids.map Ex.c).drop i)) ∧ L - i ≤ kk)
       case atStart => exact ⟨0, rfl, HG0, Nat.zero_le _, HY0, by omega⟩
       case round =>
        obtain ⟨i, rfl, hg, hle, hY, hk2⟩ := hrel
        have hbel := Lib.hid hg.out.below
        by_cases hi : i < L
        · have gi : decide ((i : Int) < (L : Int)) = true := by simpa using hi
          have gin : decide (i < L) = true := by simpa using hi
          have hil : i < kids.length := by rw [HL.out]; exact hi
          have hr : kids[i]? = some kids[i] := List.getElem?_eq_getElem hil
          have hx := h8 i _ hr
          have hdr : (kids.map Ex.c).drop i = kids[i].c :: (kids.map Ex.c).drop (i + 1) := by
           rw [← List.map_drop, List.drop_eq_getElem_cons hil, List.map_cons, List.map_drop]
          obtain ⟨rfl, hbl⟩ := h7 (by omega)
          generalize kids[i] = x at *
          clear hr hil
          have hX := fun wx hb hd => HIH.out x wx (hx.2.below (w' := wx) _ hb) hd
          obtain ⟨M, hM⟩ : ∃ M, shapeR h x.c = M := ⟨_, rfl⟩
          obtain ⟨R, hR⟩ : ∃ R, (!kidR 2 i x.c) = R := ⟨_, rfl⟩
          have hR2 : kidR 2 i x.c = !R := by rw [← hR, Bool.not_not]
          rw [hM] at hX
          have hlaw := hY.out
          rw [shapeRL_drop hdr, hR2, hM] at hlaw
          obtain ⟨k', n', d', u', oa', b', o', cap', kids'⟩ := x
          rw [Ex.c_mk] at hR
          obtain ⟨K', hK'⟩ : ∃ K', kids'.length = K' := ⟨_, rfl⟩
          simp only [xv_mk, hK'] at hX
          have HX := Lib.hid hX
          have f0 : wr.cell? ⟨b, o + i * 5, none⟩ = some (.int .i64 k') := (hbel.out.cell hbl).trans (hx.1 0 _ rfl)
          have f1 : wr.cell? ⟨b, o + i * 5 + 1, none⟩ = some (.int .i64 n') := (hbel.out.cell hbl).trans (hx.1 1 _ rfl)
          have f2 : wr.cell? ⟨b, o + i * 5 + 2, none⟩ = some (.int .i64 d') := (hbel.out.cell hbl).trans (hx.1 2 _ rfl)
          have f3 : wr.cell? ⟨b, o + i * 5 + 3, none⟩ = some (.int .i64 u') := (hbel.out.cell hbl).trans (hx.1 3 _ rfl)
          have f4 : wr.cell? ⟨b, o + i * 5 + 4, none⟩ = some (.slice oa' K' cap') := by rw [← hK']; exact (hbel.out.cell hbl).trans (hx.1 4 _ rfl)
          have HLW := Lib.hid hlaw
          have HR := Lib.hid hR
          clear hx hlaw hY hdr h8 h7 hX hM hK' hR hR2
          go_upto_region 11 with fail
          have HB7 := Lib.hid (hbel.out.alloc hbel.out.size (.cells #[.int .i64 k', .int .i64 n', .int .i64 d', .int .i64 u', .slice oa' K' cap'] 27))
          have hk7 := Blk.new wr 27 #[.int .i64 k', .int .i64 n', .int .i64 d', .int .i64 u', .slice oa' K' cap']
          have HX7 := Lib.hid (hg.out.box.old (.cells #[.int .i64 k', .int .i64 n', .int .i64 d', .int .i64 u', .slice oa' K' cap'] 27))
          have hbx := HX7.out
          obtain ⟨g7, hg7⟩ : ∃ g7, wr.heap.size = g7 := ⟨_, rfl⟩
          rw [hg7] at hk7
          simp only [hg7]
          clear hg7 f0 f1 f2 f3 f4
          generalize wr.alloc _ = w7 at *
          obtain ⟨cg0, fcg0, cg1, fcg1, cg2, fcg2, cg3, fcg3, cg4, fcg4, lcg⟩ := Blk.five (hk7)
          obtain ⟨cf0, fcf0, cf1, fcf1, cf2, fcf2, cf3, fcf3, cf4, fcf4, lcf⟩ := Blk.five (hbx)
          clear hk7 hbx
          go_cut [77] from 52 to 77 (fun s wx => s = .bool R ∧ wx = w7)
          case first =>
           by_cases hk3 : k' = 3
           · subst hk3
             by_cases hi0 : i = 0
             · have HV := Lib.hid (show R = true from by rw [← HR.out, kidR_3 rfl]; (rw [decide_eq_false (by omega)]; rfl))
               have ge : ((i : Int) == 0) = true := by simp; omega
               have ge2 : (i == 0) = true := by simp; omega
               clear hi0
               go_wp2_with fail
               go_meet
               exact ⟨by rw [HV.out], rfl⟩
             · have HV := Lib.hid (show R = false from by rw [← HR.out, kidR_3 rfl]; (rw [decide_eq_true (by omega)]; rfl))
               have ge : ((i : Int) == 0) = false := by simp; omega
               have ge2 : (i == 0) = false := by simp; omega
               clear hi0
               go_wp2_with fail
               go_meet
               exact ⟨by rw [HV.out], rfl⟩
           by_cases hk5 : k' = 5
           · subst hk5
             have HV := Lib.hid (show R = true from by rw [← HR.out, kidR_5 rfl]; (rw [decide_eq_false (by omega)]; rfl))
             go_wp2_with fail
             go_meet
             exact ⟨by rw [HV.out], rfl⟩
           have q3 : (k' == 3) = false := by simpa using hk3
           have q5 : (k' == 5) = false := by simpa using hk5
           have HV := Lib.hid (show R = false from by rw [← HR.out, kidR_0 (x := .mk k' n' d' u' (kids'.map Ex.c)) hk3 hk5]; rfl)
           clear hk3 hk5
           go_wp2_with fail
           go_meet
           exact ⟨by rw [HV.out], rfl⟩
          case rest =>
           obtain ⟨rfl, rfl⟩ := hcut
           cases R with
           | true =>
             have hK0 := Lib.hid (show K = false from by have := HLW.out; simpa using this)
             go_wp2_with fail
             go_ret
             exact ⟨ret_bool hK0.out.symm, HB7.out⟩
           | false =>
             cases M with
             | false =>
               go_wp2_with fail
               ((with_reducible refine (HX.out _ HB7.out (HD.out.below HB7.out)).mono ?_); rintro e w' ⟨rfl, hbw⟩)
               obtain ⟨m, rfl⟩ := grow_mk hbw
               clear hbw
               have hK0 := Lib.hid (show K = false from by have := HLW.out; simpa using this)
               go_wp2_with fail
               go_ret
               exact ⟨ret_bool hK0.out.symm, below_grow HB7.out m⟩
             | true =>
               go_wp2_with fail
               ((with_reducible refine (HX.out _ HB7.out (HD.out.below HB7.out)).mono ?_); rintro e w' ⟨rfl, hbw⟩)
               obtain ⟨m, rfl⟩ := grow_mk hbw
               clear hbw
               go_wp2_with fail
               go_roundg (L - (i + 1))
               case measure => omega
               case rel => exact ⟨i + 1, by go_num, Lib.hid ⟨below_grow HB7.out m, HX7.out.grow m⟩, hi, Lib.hid (by have := HLW.out; simpa using this), Nat.le_refl _⟩
        · obtain rfl : i = L := by omega
          have gi : decide ((i : Int) < (i : Int)) = false := by simp
          have gin : decide (i < i) = false := by simp
          have hKf : K = true := by
           rw [hY.out, List.drop_eq_nil_of_le (by rw [List.length_map, HL.out]; exact Nat.le_refl _)]
           rfl
          have HKf := Lib.hid hKf
          clear hKf hY h8 h7
          go_wp2_with fail
          go_ret
          exact ⟨ret_bool HKf.out.symm, hbel.out⟩
   have gk2 : (k == 2) = false := by simpa using hk2
   by_cases hk4 : k = 4
   · subst hk4
     clear gk1
     by_cases hL2 : L < 2
     · have g2 : decide ((L : Int) < 2) = true := by simp; omega
       have HF := Lib.hid (show K = false from by
        rw [← hK2]
        unfold manyR
        rw [if_pos (by omega), decide_eq_false (by omega), Bool.false_and])
       clear hL2 hK2 h7 h8 HIH
       go_enter Tryz.func26, Tryz.ntmps26
       go_wp2_with fail
       go_ret
       exact ⟨ret_bool HF.out.symm, below_box _ _⟩
     · have g2 : decide ((L : Int) < 2) = false := by simp; omega
       have HS := Lib.hid (show K = shapeRL h 4 0 (kids.map Ex.c) from by
        rw [← hK2]
        unfold manyR
        rw [if_pos (by omega), decide_eq_true (by omega), Bool.true_and])
       clear hL2 hK2
       go_enter Tryz.func26, Tryz.ntmps26
       have HY0 := Lib.hid (show K = shapeRL h 4 0 ((kids.map Ex.c).drop 0) from by rw [List.drop_zero]; exact HS.out)
       have HG0 := Lib.hid (show Gk w (w.alloc (.cells #[.int .i64 4, .int .i64 n, .int .i64 d, .int .i64 u, .slice oa L cap] 27)) 27 #[.int .i64 4, .int .i64 n, .int .i64 d, .int .i64 u, .slice oa L cap] from ⟨below_box _ _, Blk.new _ _ _⟩)
       go_wp2_with fail
       go_loopg [47] L (fun kk s47 wr => ∃ (i : Nat), s47 = .int .i64 i ∧ Hid (Gk w wr 27 #[.int .i64 4, .int .i64 n, .int .i64 d, .int .i64 u, .slice oa L cap]) ∧ i ≤ L ∧ Hid (K = shapeRL h 4 i ((kids.map Ex.c).drop i)) ∧ L - i ≤ kk)
       case atStart => exact ⟨0, rfl, HG0, Nat.zero_le _, HY0, by omega⟩
       case round =>
        obtain ⟨i, rfl, hg, hle, hY, hk2⟩ := hrel
        have hbel := Lib.hid hg.out.below
        by_cases hi : i < L
        · have gi : decide ((i : Int) < (L : Int)) = true := by simpa using hi
          have gin : decide (i < L) = true := by simpa using hi
          have hil : i < kids.length := by rw [HL.out]; exact hi
          have hr : kids[i]? = some kids[i] := List.getElem?_eq_getElem hil
          have hx := h8 i _ hr
          have hdr : (kids.map Ex.c).drop i = kids[i].c :: (kids.map Ex.c).drop (i + 1) := by
           rw [← List.map_drop, List.drop_eq_getElem_cons hil, List.map_cons, List.map_drop]
          obtain ⟨rfl, hbl⟩ := h7 (by omega)
          generalize kids[i] = x at *
          clear hr hil
          have hX := fun wx hb hd => HIH.out x wx (hx.2.below (w' := wx) _ hb) hd
          obtain ⟨M, hM⟩ : ∃ M, shapeR h x.c = M := ⟨_, rfl⟩
          obtain ⟨R, hR⟩ : ∃ R, (!kidR 4 i x.c) = R := ⟨_, rfl⟩
          have hR2 : kidR 4 i x.c = !R := by rw [← hR, Bool.not_not]
          rw [hM] at hX
          have hlaw := hY.out
          rw [shapeRL_drop hdr, hR2, hM] at hlaw
          obtain ⟨k', n', d', u', oa', b', o', cap', kids'⟩ := x
          rw [Ex.c_mk] at hR
          obtain ⟨K', hK'⟩ : ∃ K', kids'.length = K' := ⟨_, rfl⟩
          simp only [xv_mk, hK'] at hX
          have HX := Lib.hid hX
          have f0 : wr.cell? ⟨b, o + i * 5, none⟩ = some (.int .i64 k') := (hbel.out.cell hbl).trans (hx.1 0 _ rfl)
          have f1 : wr.cell? ⟨b, o + i * 5 + 1, none⟩ = some (.int .i64 n') := (hbel.out.cell hbl).trans (hx.1 1 _ rfl)
          have f2 : wr.cell? ⟨b, o + i * 5 + 2, none⟩ = some (.int .i64 d') := (hbel.out.cell hbl).trans (hx.1 2 _ rfl)
          have f3 : wr.cell? ⟨b, o + i * 5 + 3, none⟩ = some (.int .i64 u') := (hbel.out.cell hbl).trans (hx.1 3 _ rfl)
          have f4 : wr.cell? ⟨b, o + i * 5 + 4, none⟩ = some (.slice oa' K' cap') := by rw [← hK']; exact (hbel.out.cell hbl).trans (hx.1 4 _ rfl)
          have HLW := Lib.hid hlaw
          have HR := Lib.hid hR
          clear hx hlaw hY hdr h8 h7 hX hM hK' hR hR2
          go_upto_region 11 with fail
          have HB7 := Lib.hid (hbel.out.alloc hbel.out.size (.cells #[.int .i64 k', .int .i64 n', .int .i64 d', .int .i64 u', .slice oa' K' cap'] 27))
          have hk7 := Blk.new wr 27 #[.int .i64 k', .int .i64 n', .int .i64 d', .int .i64 u', .slice oa' K' cap']
          have HX7 := Lib.hid (hg.out.box.old (.cells #[.int .i64 k', .int .i64 n', .int .i64 d', .int .i64 u', .slice oa' K' cap'] 27))
          have hbx := HX7.out
          obtain ⟨g7, hg7⟩ : ∃ g7, wr.heap.size = g7 := ⟨_, rfl⟩
          rw [hg7] at hk7
          simp only [hg7]
          clear hg7 f0 f1 f2 f3 f4
          generalize wr.alloc _ = w7 at *
          obtain ⟨cg0, fcg0, cg1, fcg1, cg2, fcg2, cg3, fcg3, cg4, fcg4, lcg⟩ := Blk.five (hk7)
          obtain ⟨cf0, fcf0, cf1, fcf1, cf2, fcf2, cf3, fcf3, cf4, fcf4, lcf⟩ := Blk.five (hbx)
          clear hk7 hbx
          go_cut [77] from 52 to 77 (fun s wx => s = .bool R ∧ wx = w7)
          case first =>
           by_cases hk3 : k' = 3
           · subst hk3
             have HV := Lib.hid (show R = true from by rw [← HR.out, kidR_3 rfl]; (rw [decide_eq_false (by omega)]; rfl))
             go_wp2_with fail
             go_meet
             exact ⟨by rw [HV.out], rfl⟩
           by_cases hk5 : k' = 5
           · subst hk5
             by_cases hi0 : i = 0
             · have HV := Lib.hid (show R = true from by rw [← HR.out, kidR_5 rfl]; (rw [decide_eq_false (by omega)]; rfl))
               have ge : ((i : Int) == 0) = true := by simp; omega
               have ge2 : (i == 0) = true := by simp; omega
               clear hi0
               go_wp2_with fail
               go_meet
               exact ⟨by rw [HV.out], rfl⟩
             · have HV := Lib.hid (show R = false from by rw [← HR.out, kidR_5 rfl]; (rw [decide_eq_true (by omega)]; rfl))
               have ge : ((i : Int) == 0) = false := by simp; omega
               have ge2 : (i == 0) = false := by simp; omega
               clear hi0
               go_wp2_with fail
               go_meet
               exact ⟨by rw [HV.out], rfl⟩
           have q3 : (k' == 3) = false := by simpa using hk3
           have q5 : (k' == 5) = false := by simpa using hk5
           have HV := Lib.hid (show R = false from by rw [← HR.out, kidR_0 (x := .mk k' n' d' u' (kids'.map Ex.c)) hk3 hk5]; rfl)
           clear hk3 hk5
           go_wp2_with fail
           go_meet
           exact ⟨by rw [HV.out], rfl⟩
          case rest =>
           obtain ⟨rfl, rfl⟩ := hcut
           cases R with
           | true =>
             have hK0 := Lib.hid (show K = false from by have := HLW.out; simpa using this)
             go_wp2_with fail
             go_ret
             exact ⟨ret_bool hK0.out.symm, HB7.out⟩
           | false =>
             cases M with
             | false =>
               go_wp2_with fail
               ((with_reducible refine (HX.out _ HB7.out (HD.out.below HB7.out)).mono ?_); rintro e w' ⟨rfl, hbw⟩)
               obtain ⟨m, rfl⟩ := grow_mk hbw
               clear hbw
               have hK0 := Lib.hid (show K = false from by have := HLW.out; simpa using this)
               go_wp2_with fail
               go_ret
               exact ⟨ret_bool hK0.out.symm, below_grow HB7.out m⟩
             | true =>
               go_wp2_with fail
               ((with_reducible refine (HX.out _ HB7.out (HD.out.below HB7.out)).mono ?_); rintro e w' ⟨rfl, hbw⟩)
               obtain ⟨m, rfl⟩ := grow_mk hbw
               clear hbw
               go_wp2_with fail
               go_roundg (L - (i + 1))
               case measure => omega
               case rel => exact ⟨i + 1, by go_num, Lib.hid ⟨below_grow HB7.out m, HX7.out.grow m⟩, hi, Lib.hid (by have := HLW.out; simpa using this), Nat.le_refl _⟩
        · obtain rfl : i = L := by omega
          have gi : decide ((i : Int) < (i : Int)) = false := by simp
          have gin : decide (i < i) = false := by simp
          have hKf : K = true := by
           rw [hY.out, List.drop_eq_nil_of_le (by rw [List.length_map, HL.out]; exact Nat.le_refl _)]
           rfl
          have HKf := Lib.hid hKf
          clear hKf hY h8 h7
          go_wp2_with fail
          go_ret
          exact ⟨ret_bool HKf.out.symm, hbel.out⟩
   have gk4 : (k == 4) = false := by simpa using hk4
   have gk2n : (k != 2) = true := by simpa using hk2
   have gk4n : (k != 4) = true := by simpa using hk4
   have HS := Lib.hid (show K = shapeRL h k 0 (kids.map Ex.c) from by
    rw [← hK2]
    unfold manyR
    rw [if_neg (by omega), Bool.true_and])
   have HN := Lib.hid (And.intro hk2 hk4)
   clear hK2 hk2 hk4
   go_enter Tryz.func26, Tryz.ntmps26
   have HY0 := Lib.hid (show K = shapeRL h k 0 ((kids.map Ex.c).drop 0) from by rw [List.drop_zero]; exact HS.out)
   have HG0 := Lib.hid (show Gk w (w.alloc (.cells #[.int .i64 k, .int .i64 n, .int .i64 d, .int .i64 u, .slice oa L cap] 27)) 27 #[.int .i64 k, .int .i64 n, .int .i64 d, .int .i64 u, .slice oa L cap] from ⟨below_box _ _, Blk.new _ _ _⟩)
   go_wp2_with fail
   go_loopg [47] L (fun kk s47 wr => ∃ (i : Nat), s47 = .int .i64 i ∧ Hid (Gk w wr 27 #[.int .i64 k, .int .i64 n, .int .i64 d, .int .i64 u, .slice oa L cap]) ∧ i ≤ L ∧ Hid (K = shapeRL h k i ((kids.map Ex.c).drop i)) ∧ L - i ≤ kk)
   case atStart => exact ⟨0, rfl, HG0, Nat.zero_le _, HY0, by omega⟩
   case round =>
    obtain ⟨i, rfl, hg, hle, hY, hk2⟩ := hrel
    have hbel := Lib.hid hg.out.below
    by_cases hi : i < L
    · have gi : decide ((i : Int) < (L : Int)) = true := by simpa using hi
      have gin : decide (i < L) = true := by simpa using hi
      have hil : i < kids.length := by rw [HL.out]; exact hi
      have hr : kids[i]? = some kids[i] := List.getElem?_eq_getElem hil
      have hx := h8 i _ hr
      have hdr : (kids.map Ex.c).drop i = kids[i].c :: (kids.map Ex.c).drop (i + 1) := by
       rw [← List.map_drop, List.drop_eq_getElem_cons hil, List.map_cons, List.map_drop]
      obtain ⟨rfl, hbl⟩ := h7 (by omega)
      generalize kids[i] = x at *
      clear hr hil
      have hX := fun wx hb hd => HIH.out x wx (hx.2.below (w' := wx) _ hb) hd
      obtain ⟨M, hM⟩ : ∃ M, shapeR h x.c = M := ⟨_, rfl⟩
      obtain ⟨R, hR⟩ : ∃ R, (!kidR k i x.c) = R := ⟨_, rfl⟩
      have hR2 : kidR k i x.c = !R := by rw [← hR, Bool.not_not]
      rw [hM] at hX
      have hlaw := hY.out
      rw [shapeRL_drop hdr, hR2, hM] at hlaw
      obtain ⟨k', n', d', u', oa', b', o', cap', kids'⟩ := x
      rw [Ex.c_mk] at hR
      obtain ⟨K', hK'⟩ : ∃ K', kids'.length = K' := ⟨_, rfl⟩
      simp only [xv_mk, hK'] at hX
      have HX := Lib.hid hX
      have f0 : wr.cell? ⟨b, o + i * 5, none⟩ = some (.int .i64 k') := (hbel.out.cell hbl).trans (hx.1 0 _ rfl)
      have f1 : wr.cell? ⟨b, o + i * 5 + 1, none⟩ = some (.int .i64 n') := (hbel.out.cell hbl).trans (hx.1 1 _ rfl)
      have f2 : wr.cell? ⟨b, o + i * 5 + 2, none⟩ = some (.int .i64 d') := (hbel.out.cell hbl).trans (hx.1 2 _ rfl)
      have f3 : wr.cell? ⟨b, o + i * 5 + 3, none⟩ = some (.int .i64 u') := (hbel.out.cell hbl).trans (hx.1 3 _ rfl)
      have f4 : wr.cell? ⟨b, o + i * 5 + 4, none⟩ = some (.slice oa' K' cap') := by rw [← hK']; exact (hbel.out.cell hbl).trans (hx.1 4 _ rfl)
      have HLW := Lib.hid hlaw
      have HR := Lib.hid hR
      clear hx hlaw hY hdr h8 h7 hX hM hK' hR hR2
      go_upto_region 11 with fail
      have HB7 := Lib.hid (hbel.out.alloc hbel.out.size (.cells #[.int .i64 k', .int .i64 n', .int .i64 d', .int .i64 u', .slice oa' K' cap'] 27))
      have hk7 := Blk.new wr 27 #[.int .i64 k', .int .i64 n', .int .i64 d', .int .i64 u', .slice oa' K' cap']
      have HX7 := Lib.hid (hg.out.box.old (.cells #[.int .i64 k', .int .i64 n', .int .i64 d', .int .i64 u', .slice oa' K' cap'] 27))
      have hbx := HX7.out
      obtain ⟨g7, hg7⟩ : ∃ g7, wr.heap.size = g7 := ⟨_, rfl⟩
      rw [hg7] at hk7
      simp only [hg7]
      clear hg7 f0 f1 f2 f3 f4
      generalize wr.alloc _ = w7 at *
      obtain ⟨cg0, fcg0, cg1, fcg1, cg2, fcg2, cg3, fcg3, cg4, fcg4, lcg⟩ := Blk.five (hk7)
      obtain ⟨cf0, fcf0, cf1, fcf1, cf2, fcf2, cf3, fcf3, cf4, fcf4, lcf⟩ := Blk.five (hbx)
      clear hk7 hbx
      go_cut [77] from 52 to 77 (fun s wx => s = .bool R ∧ wx = w7)
      case first =>
       by_cases hk3 : k' = 3
       · subst hk3
         have HV := Lib.hid (show R = true from by rw [← HR.out, kidR_3 rfl]; (rw [decide_eq_false (fun h => HN.out.1 h.1)]; rfl))
         go_wp2_with fail
         go_meet
         exact ⟨by rw [HV.out], rfl⟩
       by_cases hk5 : k' = 5
       · subst hk5
         have HV := Lib.hid (show R = true from by rw [← HR.out, kidR_5 rfl]; (rw [decide_eq_false (fun h => HN.out.2 h.1)]; rfl))
         go_wp2_with fail
         go_meet
         exact ⟨by rw [HV.out], rfl⟩
       have q3 : (k' == 3) = false := by simpa using hk3
       have q5 : (k' == 5) = false := by simpa using hk5
       have HV := Lib.hid (show R = false from by rw [← HR.out, kidR_0 (x := .mk k' n' d' u' (kids'.map Ex.c)) hk3 hk5]; rfl)
       clear hk3 hk5
       go_wp2_with fail
       go_meet
       exact ⟨by rw [HV.out], rfl⟩
      case rest =>
       obtain ⟨rfl, rfl⟩ := hcut
       cases R with
       | true =>
         have hK0 := Lib.hid (show K = false from by have := HLW.out; simpa using this)
         go_wp2_with fail
         go_ret
         exact ⟨ret_bool hK0.out.symm, HB7.out⟩
       | false =>
         cases M with
         | false =>
           go_wp2_with fail
           ((with_reducible refine (HX.out _ HB7.out (HD.out.below HB7.out)).mono ?_); rintro e w' ⟨rfl, hbw⟩)
           obtain ⟨m, rfl⟩ := grow_mk hbw
           clear hbw
           have hK0 := Lib.hid (show K = false from by have := HLW.out; simpa using this)
           go_wp2_with fail
           go_ret
           exact ⟨ret_bool hK0.out.symm, below_grow HB7.out m⟩
         | true =>
           go_wp2_with fail
           ((with_reducible refine (HX.out _ HB7.out (HD.out.below HB7.out)).mono ?_); rintro e w' ⟨rfl, hbw⟩)
           obtain ⟨m, rfl⟩ := grow_mk hbw
           clear hbw
           go_wp2_with fail
           go_roundg (L - (i + 1))
           case measure => omega
           case rel => exact ⟨i + 1, by go_num, Lib.hid ⟨below_grow HB7.out m, HX7.out.grow m⟩, hi, Lib.hid (by have := HLW.out; simpa using this), Nat.le_refl _⟩
    · obtain rfl : i = L := by omega
      have gi : decide ((i : Int) < (i : Int)) = false := by simp
      have gin : decide (i < i) = false := by simp
      have hKf : K = true := by
       rw [hY.out, List.drop_eq_nil_of_le (by rw [List.length_map, HL.out]; exact Nat.le_refl _)]
       rfl
      have HKf := Lib.hid hKf
      clear hKf hY h8 h7
      go_wp2_with fail
      go_ret
      exact ⟨ret_bool HKf.out.symm, hbel.out⟩
end Go.Proofs.YtplnhjmomomphaaGreatDoor
