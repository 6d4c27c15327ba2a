/- Of my texts: TextC, TextH. -/
import Derived.Test.YtplnhjmomomphaaGreatDoorM05
import Derived.Test.YtplnhjmomomphaaGreatDoorM18
import Derived.Test.YtplnhjmomomphaaGreatDoorM25
import Derived.Test.YtplnhjmomomphaaGreatDoorM32
namespace Go.Proofs.YtplnhjmomomphaaGreatDoor
set_option linter.unusedVariables false
set_option linter.unusedSimpArgs false
open Go.RowKit
theorem out_parts (o : Option (List UInt8)) : ∃ (s : List UInt8) (c : Int), outP o = .tuple #[.string ⟨s.toArray⟩, .int .i64 c] ∧ (c == 0) = o.isSome ∧ (c != 0) = !o.isSome := by
 cases o with
 | none => exact ⟨[], 1, rfl, rfl, rfl⟩
 | some t => exact ⟨t, 0, rfl, rfl, rfl⟩
theorem shapeL_drop {h : Nat} {k : Int} {l : List Et} {i : Nat} {x : Et} (hx : l.drop i = x :: l.drop (i + 1)) : shapeL h k i (l.drop i) = (shapeP h (decide (k = 2) && decide (0 < i)) (decide (k = 4) && decide (0 < i)) x && shapeL h k (i + 1) (l.drop (i + 1))) := by
 rw [hx, shapeL]
set_option maxRecDepth 20000 in
set_option maxHeartbeats 8000000 in
theorem cshaped_any : ∀ (h : Nat) (neg inv : Bool) (e : Ex) (w : World), ExIn w h e → Deb w →
 Calls Tryz.prog 16 #[xv e, .bool neg, .bool inv] w fun x w' => x = .returned (.bool (shapeP h neg inv e.c)) ∧ Below w.heap.size w w' := by
 intro h
 induction h with
 | zero => exact fun _ _ _ _ h => h.elim
 | succ h ih =>
   intro neg inv e w hx hd
   obtain ⟨k, n, d, u, oa, b, o, cap, kids⟩ := e
   obtain ⟨h1, h2, h3, h4, h5, h6, h7, h8⟩ := hx
   have hsm : kids.length ≤ 9223372036854775807 := Nat.le_trans (Nat.le_trans h4 h5) (by decide)
   have HIH := Lib.hid ih
   have HD := Lib.hid hd
   obtain ⟨K, hK⟩ : ∃ K, shapeP (h + 1) neg inv (Ex.mk k n d u oa b o cap kids).c = K := ⟨_, rfl⟩
   have hK2 := hK
   rw [Ex.c_mk, shapeP_L, List.length_map] at hK2
   clear ih h1 h3 h6 hd
   rw [xv_mk, hK]
   clear hK
   by_cases hk1 : k = 1
   · subst hk1
     rw [if_pos rfl] at hK2
     have c1 := fun w hd => plain_any (n, d) (d == 1) w h2 hd
     obtain ⟨s, c, hP, hc, _⟩ := out_parts (plainF (n, d) (d == 1))
     simp only [rv, hP] at c1
     rw [hK2] at hc
     have C1 := Lib.hid c1
     have HC := Lib.hid hc
     clear c1 hc hP hK2 h7 h8 HIH h2
     go_enter Tryz.func16, Tryz.ntmps16
     go_wp2_with fail
     ((with_reducible refine (C1.out _ (HD.out.below (below_box _ _))).mono ?_); rintro e w' ⟨rfl, hbw⟩)
     obtain ⟨m1, rfl⟩ := grow_mk hbw
     clear hbw
     go_wp2_with fail
     go_ret
     exact ⟨ret_bool HC.out, below_grow (below_box _ _) m1⟩
   rw [if_neg hk1] at hK2
   have gk1 : (k == 1) = false := by simpa using hk1
   obtain ⟨L, hL⟩ : ∃ L, kids.length = L := ⟨_, rfl⟩
   rw [hL] at hsm h4 h7 hK2 ⊢
   have HL := Lib.hid hL
   clear hk1 hL h2
   by_cases hk2 : k = 2
   · subst hk2
     clear gk1
     by_cases hL2 : L < 2
     · have g2 : decide ((L : Int) < 2) = true := by simp; omega
       have hF : K = false := by
        rw [← hK2]
        unfold flagP
        rw [if_pos (by omega), decide_eq_false (by omega), Bool.false_and]
       clear hL2 hK2 h7 h8 HIH
       have HF := Lib.hid hF
       go_enter Tryz.func16, Tryz.ntmps16
       go_wp2_with fail
       go_ret
       exact ⟨ret_bool HF.out.symm, below_box _ _⟩
     · have g2 : decide ((L : Int) < 2) = false := by simp; omega
       have hS : K = shapeL h 2 0 (kids.map Ex.c) := by
        rw [← hK2]
        unfold flagP
        rw [if_pos (by omega), decide_eq_true (by omega), Bool.true_and]
       have HS := Lib.hid hS
       clear hL2 hK2 hS
       have HY0 := Lib.hid (show K = shapeL h 2 0 ((kids.map Ex.c).drop 0) from by rw [List.drop_zero]; exact HS.out)
       go_enter Tryz.func16, Tryz.ntmps16
       go_wp2_with fail
       go_loopg [45] L (fun kk s45 wr => ∃ (i : Nat), s45 = .int .i64 i ∧ Hid (Gk w wr 27 #[.int .i64 2, .int .i64 n, .int .i64 d, .int .i64 u, .slice oa L cap]) ∧ i ≤ L ∧ Hid (K = shapeL h 2 i ((kids.map Ex.c).drop i)) ∧ L - i ≤ kk)
       case atStart => exact ⟨0, rfl, Lib.hid ⟨below_box _ _, Blk.new _ _ _⟩, Nat.zero_le _, HY0, by omega⟩
       case round =>
        obtain ⟨i, rfl, hg, hle, hY, hk2⟩ := hrel
        have hbel := Lib.hid hg.out.below
        have hbox := hg.out.box
        obtain ⟨ce0, fce0, ce1, fce1, ce2, fce2, ce3, fce3, ce4, fce4, lce⟩ := Blk.five (hbox)
        by_cases hi : i < L
        · have gi : decide ((i : Int) < (L : Int)) = true := by simpa using hi
          have gin : decide (i < L) = true := by simpa using hi
          have hil : i < kids.length := by rw [HL.out]; exact hi
          have hr : kids[i]? = some kids[i] := List.getElem?_eq_getElem hil
          have hx := h8 i _ hr
          have hdr : (kids.map Ex.c).drop i = kids[i].c :: (kids.map Ex.c).drop (i + 1) := by
           rw [← List.map_drop, List.drop_eq_getElem_cons hil, List.map_cons, List.map_drop]
          obtain ⟨rfl, hbl⟩ := h7 (by omega)
          generalize kids[i] = x at *
          clear hr hbox hil
          by_cases hi0 : i = 0
          · have gp1 : decide ((0 : Int) < (i : Int)) = false := by simp; omega
            have gp2 : decide (0 < i) = false := by simp; omega
            have gp3 : decide ((i : Int) > (0 : Int)) = false := by simp; omega
            have e2 : (decide ((2 : Int) = 2) && decide (0 < i)) = false := by rw [gp2]; rfl
            have e4 : (decide ((2 : Int) = 4) && decide (0 < i)) = false := by rw [gp2]; rfl
            clear hi0
            have hX := fun wx hb hd => HIH.out false false x wx (hx.2.below (w' := wx) _ hb) hd
            obtain ⟨M, hM⟩ : ∃ M, shapeP h false false x.c = M := ⟨_, rfl⟩
            rw [hM] at hX
            have hlaw := hY.out
            rw [shapeL_drop hdr] at hlaw
            rw [e2, e4, hM] at hlaw
            clear e2 e4
            obtain ⟨k', n', d', u', oa', b', o', cap', kids'⟩ := x
            obtain ⟨K', hK'⟩ : ∃ K', kids'.length = K' := ⟨_, rfl⟩
            simp only [xv_mk, hK'] at hX
            have HX := Lib.hid hX
            have f0 : wr.cell? ⟨b, o + i * 5, none⟩ = some (.int .i64 k') := (hbel.out.cell hbl).trans (hx.1 0 _ rfl)
            have f1 : wr.cell? ⟨b, o + i * 5 + 1, none⟩ = some (.int .i64 n') := (hbel.out.cell hbl).trans (hx.1 1 _ rfl)
            have f2 : wr.cell? ⟨b, o + i * 5 + 2, none⟩ = some (.int .i64 d') := (hbel.out.cell hbl).trans (hx.1 2 _ rfl)
            have f3 : wr.cell? ⟨b, o + i * 5 + 3, none⟩ = some (.int .i64 u') := (hbel.out.cell hbl).trans (hx.1 3 _ rfl)
            have f4 : wr.cell? ⟨b, o + i * 5 + 4, none⟩ = some (.slice oa' K' cap') := by rw [← hK']; exact (hbel.out.cell hbl).trans (hx.1 4 _ rfl)
            have HLW := Lib.hid hlaw
            clear hx hlaw hY hdr h8 h7 hX hM hK'
            cases M with
            | false =>
              go_wp2_with fail
              ((with_reducible refine (HX.out _ (hbel.out.alloc hbel.out.size _) (HD.out.below (hbel.out.alloc hbel.out.size _))).mono ?_); rintro e w' ⟨rfl, hbw⟩)
              obtain ⟨m, rfl⟩ := grow_mk hbw
              clear hbw
              have hK0 := Lib.hid (show K = false from by have := HLW.out; simpa using this)
              go_wp2_with fail
              go_ret
              exact ⟨ret_bool hK0.out.symm, below_grow (hbel.out.alloc hbel.out.size _) m⟩
            | true =>
              go_wp2_with fail
              ((with_reducible refine (HX.out _ (hbel.out.alloc hbel.out.size _) (HD.out.below (hbel.out.alloc hbel.out.size _))).mono ?_); rintro e w' ⟨rfl, hbw⟩)
              obtain ⟨m, rfl⟩ := grow_mk hbw
              clear hbw
              go_wp2_with fail
              go_roundg (L - (i + 1))
              case measure => omega
              case rel => exact ⟨i + 1, by go_num, Lib.hid ⟨below_grow (hbel.out.alloc hbel.out.size _) m, (hg.out.box.old _).grow m⟩, hi, Lib.hid (by have := HLW.out; simpa using this), Nat.le_refl _⟩
          · have gp1 : decide ((0 : Int) < (i : Int)) = true := by simp; omega
            have gp2 : decide (0 < i) = true := by simp; omega
            have gp3 : decide ((i : Int) > (0 : Int)) = true := by simp; omega
            have e2 : (decide ((2 : Int) = 2) && decide (0 < i)) = true := by rw [gp2]; rfl
            have e4 : (decide ((2 : Int) = 4) && decide (0 < i)) = false := by rw [gp2]; rfl
            clear hi0
            have hX := fun wx hb hd => HIH.out true false x wx (hx.2.below (w' := wx) _ hb) hd
            obtain ⟨M, hM⟩ : ∃ M, shapeP h true false x.c = M := ⟨_, rfl⟩
            rw [hM] at hX
            have hlaw := hY.out
            rw [shapeL_drop hdr] at hlaw
            rw [e2, e4, hM] at hlaw
            clear e2 e4
            obtain ⟨k', n', d', u', oa', b', o', cap', kids'⟩ := x
            obtain ⟨K', hK'⟩ : ∃ K', kids'.length = K' := ⟨_, rfl⟩
            simp only [xv_mk, hK'] at hX
            have HX := Lib.hid hX
            have f0 : wr.cell? ⟨b, o + i * 5, none⟩ = some (.int .i64 k') := (hbel.out.cell hbl).trans (hx.1 0 _ rfl)
            have f1 : wr.cell? ⟨b, o + i * 5 + 1, none⟩ = some (.int .i64 n') := (hbel.out.cell hbl).trans (hx.1 1 _ rfl)
            have f2 : wr.cell? ⟨b, o + i * 5 + 2, none⟩ = some (.int .i64 d') := (hbel.out.cell hbl).trans (hx.1 2 _ rfl)
            have f3 : wr.cell? ⟨b, o + i * 5 + 3, none⟩ = some (.int .i64 u') := (hbel.out.cell hbl).trans (hx.1 3 _ rfl)
            have f4 : wr.cell? ⟨b, o + i * 5 + 4, none⟩ = some (.slice oa' K' cap') := by rw [← hK']; exact (hbel.out.cell hbl).trans (hx.1 4 _ rfl)
            have HLW := Lib.hid hlaw
            clear hx hlaw hY hdr h8 h7 hX hM hK'
            cases M with
            | false =>
              go_wp2_with fail
              ((with_reducible refine (HX.out _ (hbel.out.alloc hbel.out.size _) (HD.out.below (hbel.out.alloc hbel.out.size _))).mono ?_); rintro e w' ⟨rfl, hbw⟩)
              obtain ⟨m, rfl⟩ := grow_mk hbw
              clear hbw
              have hK0 := Lib.hid (show K = false from by have := HLW.out; simpa using this)
              go_wp2_with fail
              go_ret
              exact ⟨ret_bool hK0.out.symm, below_grow (hbel.out.alloc hbel.out.size _) m⟩
            | true =>
              go_wp2_with fail
              ((with_reducible refine (HX.out _ (hbel.out.alloc hbel.out.size _) (HD.out.below (hbel.out.alloc hbel.out.size _))).mono ?_); rintro e w' ⟨rfl, hbw⟩)
              obtain ⟨m, rfl⟩ := grow_mk hbw
              clear hbw
              go_wp2_with fail
              go_roundg (L - (i + 1))
              case measure => omega
              case rel => exact ⟨i + 1, by go_num, Lib.hid ⟨below_grow (hbel.out.alloc hbel.out.size _) m, (hg.out.box.old _).grow m⟩, hi, Lib.hid (by have := HLW.out; simpa using this), Nat.le_refl _⟩
        · obtain rfl : i = L := by omega
          have gi : decide ((i : Int) < (i : Int)) = false := by simp
          have gin : decide (i < i) = false := by simp
          have hKf : K = true := by
           rw [hY.out, List.drop_eq_nil_of_le (by rw [List.length_map, HL.out]; exact Nat.le_refl _)]
           rfl
          have HKf := Lib.hid hKf
          clear hKf hbox hY h8 h7
          go_wp2_with fail
          go_ret
          exact ⟨ret_bool HKf.out.symm, hbel.out⟩
   have gk2 : (k == 2) = false := by simpa using hk2
   by_cases hk4 : k = 4
   · subst hk4
     clear gk1
     by_cases hL2 : L < 2
     · have g2 : decide ((L : Int) < 2) = true := by simp; omega
       have hF : K = false := by
        rw [← hK2]
        unfold flagP
        rw [if_pos (by omega), decide_eq_false (by omega), Bool.false_and]
       clear hL2 hK2 h7 h8 HIH
       have HF := Lib.hid hF
       go_enter Tryz.func16, Tryz.ntmps16
       go_wp2_with fail
       go_ret
       exact ⟨ret_bool HF.out.symm, below_box _ _⟩
     · have g2 : decide ((L : Int) < 2) = false := by simp; omega
       have hS : K = shapeL h 4 0 (kids.map Ex.c) := by
        rw [← hK2]
        unfold flagP
        rw [if_pos (by omega), decide_eq_true (by omega), Bool.true_and]
       have HS := Lib.hid hS
       clear hL2 hK2 hS
       have HY0 := Lib.hid (show K = shapeL h 4 0 ((kids.map Ex.c).drop 0) from by rw [List.drop_zero]; exact HS.out)
       go_enter Tryz.func16, Tryz.ntmps16
       go_wp2_with fail
       go_loopg [45] L (fun kk s45 wr => ∃ (i : Nat), s45 = .int .i64 i ∧ Hid (Gk w wr 27 #[.int .i64 4, .int .i64 n, .int .i64 d, .int .i64 u, .slice oa L cap]) ∧ i ≤ L ∧ Hid (K = shapeL h 4 i ((kids.map Ex.c).drop i)) ∧ L - i ≤ kk)
       case atStart => exact ⟨0, rfl, Lib.hid ⟨below_box _ _, Blk.new _ _ _⟩, Nat.zero_le _, HY0, by omega⟩
       case round =>
        obtain ⟨i, rfl, hg, hle, hY, hk2⟩ := hrel
        have hbel := Lib.hid hg.out.below
        have hbox := hg.out.box
        obtain ⟨ce0, fce0, ce1, fce1, ce2, fce2, ce3, fce3, ce4, fce4, lce⟩ := Blk.five (hbox)
        by_cases hi : i < L
        · have gi : decide ((i : Int) < (L : Int)) = true := by simpa using hi
          have gin : decide (i < L) = true := by simpa using hi
          have hil : i < kids.length := by rw [HL.out]; exact hi
          have hr : kids[i]? = some kids[i] := List.getElem?_eq_getElem hil
          have hx := h8 i _ hr
          have hdr : (kids.map Ex.c).drop i = kids[i].c :: (kids.map Ex.c).drop (i + 1) := by
           rw [← List.map_drop, List.drop_eq_getElem_cons hil, List.map_cons, List.map_drop]
          obtain ⟨rfl, hbl⟩ := h7 (by omega)
          generalize kids[i] = x at *
          clear hr hbox hil
          by_cases hi0 : i = 0
          · have gp1 : decide ((0 : Int) < (i : Int)) = false := by simp; omega
            have gp2 : decide (0 < i) = false := by simp; omega
            have gp3 : decide ((i : Int) > (0 : Int)) = false := by simp; omega
            have e2 : (decide ((4 : Int) = 2) && decide (0 < i)) = false := by rw [gp2]; rfl
            have e4 : (decide ((4 : Int) = 4) && decide (0 < i)) = false := by rw [gp2]; rfl
            clear hi0
            have hX := fun wx hb hd => HIH.out false false x wx (hx.2.below (w' := wx) _ hb) hd
            obtain ⟨M, hM⟩ : ∃ M, shapeP h false false x.c = M := ⟨_, rfl⟩
            rw [hM] at hX
            have hlaw := hY.out
            rw [shapeL_drop hdr] at hlaw
            rw [e2, e4, hM] at hlaw
            clear e2 e4
            obtain ⟨k', n', d', u', oa', b', o', cap', kids'⟩ := x
            obtain ⟨K', hK'⟩ : ∃ K', kids'.length = K' := ⟨_, rfl⟩
            simp only [xv_mk, hK'] at hX
            have HX := Lib.hid hX
            have f0 : wr.cell? ⟨b, o + i * 5, none⟩ = some (.int .i64 k') := (hbel.out.cell hbl).trans (hx.1 0 _ rfl)
            have f1 : wr.cell? ⟨b, o + i * 5 + 1, none⟩ = some (.int .i64 n') := (hbel.out.cell hbl).trans (hx.1 1 _ rfl)
            have f2 : wr.cell? ⟨b, o + i * 5 + 2, none⟩ = some (.int .i64 d') := (hbel.out.cell hbl).trans (hx.1 2 _ rfl)
            have f3 : wr.cell? ⟨b, o + i * 5 + 3, none⟩ = some (.int .i64 u') := (hbel.out.cell hbl).trans (hx.1 3 _ rfl)
            have f4 : wr.cell? ⟨b, o + i * 5 + 4, none⟩ = some (.slice oa' K' cap') := by rw [← hK']; exact (hbel.out.cell hbl).trans (hx.1 4 _ rfl)
            have HLW := Lib.hid hlaw
            clear hx hlaw hY hdr h8 h7 hX hM hK'
            cases M with
            | false =>
              go_wp2_with fail
              ((with_reducible refine (HX.out _ (hbel.out.alloc hbel.out.size _) (HD.out.below (hbel.out.alloc hbel.out.size _))).mono ?_); rintro e w' ⟨rfl, hbw⟩)
              obtain ⟨m, rfl⟩ := grow_mk hbw
              clear hbw
              have hK0 := Lib.hid (show K = false from by have := HLW.out; simpa using this)
              go_wp2_with fail
              go_ret
              exact ⟨ret_bool hK0.out.symm, below_grow (hbel.out.alloc hbel.out.size _) m⟩
            | true =>
              go_wp2_with fail
              ((with_reducible refine (HX.out _ (hbel.out.alloc hbel.out.size _) (HD.out.below (hbel.out.alloc hbel.out.size _))).mono ?_); rintro e w' ⟨rfl, hbw⟩)
              obtain ⟨m, rfl⟩ := grow_mk hbw
              clear hbw
              go_wp2_with fail
              go_roundg (L - (i + 1))
              case measure => omega
              case rel => exact ⟨i + 1, by go_num, Lib.hid ⟨below_grow (hbel.out.alloc hbel.out.size _) m, (hg.out.box.old _).grow m⟩, hi, Lib.hid (by have := HLW.out; simpa using this), Nat.le_refl _⟩
          · have gp1 : decide ((0 : Int) < (i : Int)) = true := by simp; omega
            have gp2 : decide (0 < i) = true := by simp; omega
            have gp3 : decide ((i : Int) > (0 : Int)) = true := by simp; omega
            have e2 : (decide ((4 : Int) = 2) && decide (0 < i)) = false := by rw [gp2]; rfl
            have e4 : (decide ((4 : Int) = 4) && decide (0 < i)) = true := by rw [gp2]; rfl
            clear hi0
            have hX := fun wx hb hd => HIH.out false true x wx (hx.2.below (w' := wx) _ hb) hd
            obtain ⟨M, hM⟩ : ∃ M, shapeP h false true x.c = M := ⟨_, rfl⟩
            rw [hM] at hX
            have hlaw := hY.out
            rw [shapeL_drop hdr] at hlaw
            rw [e2, e4, hM] at hlaw
            clear e2 e4
            obtain ⟨k', n', d', u', oa', b', o', cap', kids'⟩ := x
            obtain ⟨K', hK'⟩ : ∃ K', kids'.length = K' := ⟨_, rfl⟩
            simp only [xv_mk, hK'] at hX
            have HX := Lib.hid hX
            have f0 : wr.cell? ⟨b, o + i * 5, none⟩ = some (.int .i64 k') := (hbel.out.cell hbl).trans (hx.1 0 _ rfl)
            have f1 : wr.cell? ⟨b, o + i * 5 + 1, none⟩ = some (.int .i64 n') := (hbel.out.cell hbl).trans (hx.1 1 _ rfl)
            have f2 : wr.cell? ⟨b, o + i * 5 + 2, none⟩ = some (.int .i64 d') := (hbel.out.cell hbl).trans (hx.1 2 _ rfl)
            have f3 : wr.cell? ⟨b, o + i * 5 + 3, none⟩ = some (.int .i64 u') := (hbel.out.cell hbl).trans (hx.1 3 _ rfl)
            have f4 : wr.cell? ⟨b, o + i * 5 + 4, none⟩ = some (.slice oa' K' cap') := by rw [← hK']; exact (hbel.out.cell hbl).trans (hx.1 4 _ rfl)
            have HLW := Lib.hid hlaw
            clear hx hlaw hY hdr h8 h7 hX hM hK'
            cases M with
            | false =>
              go_wp2_with fail
              ((with_reducible refine (HX.out _ (hbel.out.alloc hbel.out.size _) (HD.out.below (hbel.out.alloc hbel.out.size _))).mono ?_); rintro e w' ⟨rfl, hbw⟩)
              obtain ⟨m, rfl⟩ := grow_mk hbw
              clear hbw
              have hK0 := Lib.hid (show K = false from by have := HLW.out; simpa using this)
              go_wp2_with fail
              go_ret
              exact ⟨ret_bool hK0.out.symm, below_grow (hbel.out.alloc hbel.out.size _) m⟩
            | true =>
              go_wp2_with fail
              ((with_reducible refine (HX.out _ (hbel.out.alloc hbel.out.size _) (HD.out.below (hbel.out.alloc hbel.out.size _))).mono ?_); rintro e w' ⟨rfl, hbw⟩)
              obtain ⟨m, rfl⟩ := grow_mk hbw
              clear hbw
              go_wp2_with fail
              go_roundg (L - (i + 1))
              case measure => omega
              case rel => exact ⟨i + 1, by go_num, Lib.hid ⟨below_grow (hbel.out.alloc hbel.out.size _) m, (hg.out.box.old _).grow m⟩, hi, Lib.hid (by have := HLW.out; simpa using this), Nat.le_refl _⟩
        · obtain rfl : i = L := by omega
          have gi : decide ((i : Int) < (i : Int)) = false := by simp
          have gin : decide (i < i) = false := by simp
          have hKf : K = true := by
           rw [hY.out, List.drop_eq_nil_of_le (by rw [List.length_map, HL.out]; exact Nat.le_refl _)]
           rfl
          have HKf := Lib.hid hKf
          clear hKf hbox hY h8 h7
          go_wp2_with fail
          go_ret
          exact ⟨ret_bool HKf.out.symm, hbel.out⟩
   have gk4 : (k == 4) = false := by simpa using hk4
   by_cases hk3 : k = 3
   · subst hk3
     clear gk1 gk2 gk4
     cases neg with
     | false =>
       have hF : K = false := by
        rw [← hK2]
        rfl
       clear hK2 h7 h8 HIH
       have HF := Lib.hid hF
       go_enter Tryz.func16, Tryz.ntmps16
       go_wp2_with fail
       go_ret
       exact ⟨ret_bool HF.out.symm, below_box _ _⟩
     | true =>
       have hS : K = shapeL h 3 0 (kids.map Ex.c) := by
        rw [← hK2]
        show (true && _) = _
        rw [Bool.true_and]
       have HS := Lib.hid hS
       clear hK2 hS
       have HY0 := Lib.hid (show K = shapeL h 3 0 ((kids.map Ex.c).drop 0) from by rw [List.drop_zero]; exact HS.out)
       go_enter Tryz.func16, Tryz.ntmps16
       go_wp2_with fail
       go_loopg [45] L (fun kk s45 wr => ∃ (i : Nat), s45 = .int .i64 i ∧ Hid (Gk w wr 27 #[.int .i64 3, .int .i64 n, .int .i64 d, .int .i64 u, .slice oa L cap]) ∧ i ≤ L ∧ Hid (K = shapeL h 3 i ((kids.map Ex.c).drop i)) ∧ L - i ≤ kk)
       case atStart => exact ⟨0, rfl, Lib.hid ⟨below_box _ _, Blk.new _ _ _⟩, Nat.zero_le _, HY0, by omega⟩
       case round =>
        obtain ⟨i, rfl, hg, hle, hY, hk2⟩ := hrel
        have hbel := Lib.hid hg.out.below
        have hbox := hg.out.box
        obtain ⟨ce0, fce0, ce1, fce1, ce2, fce2, ce3, fce3, ce4, fce4, lce⟩ := Blk.five (hbox)
        by_cases hi : i < L
        · have gi : decide ((i : Int) < (L : Int)) = true := by simpa using hi
          have gin : decide (i < L) = true := by simpa using hi
          have hil : i < kids.length := by rw [HL.out]; exact hi
          have hr : kids[i]? = some kids[i] := List.getElem?_eq_getElem hil
          have hx := h8 i _ hr
          have hdr : (kids.map Ex.c).drop i = kids[i].c :: (kids.map Ex.c).drop (i + 1) := by
           rw [← List.map_drop, List.drop_eq_getElem_cons hil, List.map_cons, List.map_drop]
          obtain ⟨rfl, hbl⟩ := h7 (by omega)
          generalize kids[i] = x at *
          clear hr hbox hil
          have e2 : (decide ((3 : Int) = 2) && decide (0 < i)) = false := by simp only [show ¬ ((3 : Int) = 2) by decide, decide_false, Bool.false_and]
          have e4 : (decide ((3 : Int) = 4) && decide (0 < i)) = false := by simp only [show ¬ ((3 : Int) = 4) by decide, decide_false, Bool.false_and]
          have hX := fun wx hb hd => HIH.out false false x wx (hx.2.below (w' := wx) _ hb) hd
          obtain ⟨M, hM⟩ : ∃ M, shapeP h false false x.c = M := ⟨_, rfl⟩
          rw [hM] at hX
          have hlaw := hY.out
          rw [shapeL_drop hdr] at hlaw
          rw [e2, e4, hM] at hlaw
          clear e2 e4
          obtain ⟨k', n', d', u', oa', b', o', cap', kids'⟩ := x
          obtain ⟨K', hK'⟩ : ∃ K', kids'.length = K' := ⟨_, rfl⟩
          simp only [xv_mk, hK'] at hX
          have HX := Lib.hid hX
          have f0 : wr.cell? ⟨b, o + i * 5, none⟩ = some (.int .i64 k') := (hbel.out.cell hbl).trans (hx.1 0 _ rfl)
          have f1 : wr.cell? ⟨b, o + i * 5 + 1, none⟩ = some (.int .i64 n') := (hbel.out.cell hbl).trans (hx.1 1 _ rfl)
          have f2 : wr.cell? ⟨b, o + i * 5 + 2, none⟩ = some (.int .i64 d') := (hbel.out.cell hbl).trans (hx.1 2 _ rfl)
          have f3 : wr.cell? ⟨b, o + i * 5 + 3, none⟩ = some (.int .i64 u') := (hbel.out.cell hbl).trans (hx.1 3 _ rfl)
          have f4 : wr.cell? ⟨b, o + i * 5 + 4, none⟩ = some (.slice oa' K' cap') := by rw [← hK']; exact (hbel.out.cell hbl).trans (hx.1 4 _ rfl)
          have HLW := Lib.hid hlaw
          clear hx hlaw hY hdr h8 h7 hX hM hK'
          cases M with
          | false =>
            go_wp2_with fail
            ((with_reducible refine (HX.out _ (hbel.out.alloc hbel.out.size _) (HD.out.below (hbel.out.alloc hbel.out.size _))).mono ?_); rintro e w' ⟨rfl, hbw⟩)
            obtain ⟨m, rfl⟩ := grow_mk hbw
            clear hbw
            have hK0 := Lib.hid (show K = false from by have := HLW.out; simpa using this)
            go_wp2_with fail
            go_ret
            exact ⟨ret_bool hK0.out.symm, below_grow (hbel.out.alloc hbel.out.size _) m⟩
          | true =>
            go_wp2_with fail
            ((with_reducible refine (HX.out _ (hbel.out.alloc hbel.out.size _) (HD.out.below (hbel.out.alloc hbel.out.size _))).mono ?_); rintro e w' ⟨rfl, hbw⟩)
            obtain ⟨m, rfl⟩ := grow_mk hbw
            clear hbw
            go_wp2_with fail
            go_roundg (L - (i + 1))
            case measure => omega
            case rel => exact ⟨i + 1, by go_num, Lib.hid ⟨below_grow (hbel.out.alloc hbel.out.size _) m, (hg.out.box.old _).grow m⟩, hi, Lib.hid (by have := HLW.out; simpa using this), Nat.le_refl _⟩
        · obtain rfl : i = L := by omega
          have gi : decide ((i : Int) < (i : Int)) = false := by simp
          have gin : decide (i < i) = false := by simp
          have hKf : K = true := by
           rw [hY.out, List.drop_eq_nil_of_le (by rw [List.length_map, HL.out]; exact Nat.le_refl _)]
           rfl
          have HKf := Lib.hid hKf
          clear hKf hbox hY h8 h7
          go_wp2_with fail
          go_ret
          exact ⟨ret_bool HKf.out.symm, hbel.out⟩
   have gk3 : (k == 3) = false := by simpa using hk3
   by_cases hk5 : k = 5
   · subst hk5
     clear gk1 gk2 gk4
     cases inv with
     | false =>
       have hF : K = false := by
        rw [← hK2]
        rfl
       clear hK2 h7 h8 HIH
       have HF := Lib.hid hF
       go_enter Tryz.func16, Tryz.ntmps16
       go_wp2_with fail
       go_ret
       exact ⟨ret_bool HF.out.symm, below_box _ _⟩
     | true =>
       have hS : K = shapeL h 5 0 (kids.map Ex.c) := by
        rw [← hK2]
        show (true && _) = _
        rw [Bool.true_and]
       have HS := Lib.hid hS
       clear hK2 hS
       have HY0 := Lib.hid (show K = shapeL h 5 0 ((kids.map Ex.c).drop 0) from by rw [List.drop_zero]; exact HS.out)
       go_enter Tryz.func16, Tryz.ntmps16
       go_wp2_with fail
       go_loopg [45] L (fun kk s45 wr => ∃ (i : Nat), s45 = .int .i64 i ∧ Hid (Gk w wr 27 #[.int .i64 5, .int .i64 n, .int .i64 d, .int .i64 u, .slice oa L cap]) ∧ i ≤ L ∧ Hid (K = shapeL h 5 i ((kids.map Ex.c).drop i)) ∧ L - i ≤ kk)
       case atStart => exact ⟨0, rfl, Lib.hid ⟨below_box _ _, Blk.new _ _ _⟩, Nat.zero_le _, HY0, by omega⟩
       case round =>
        obtain ⟨i, rfl, hg, hle, hY, hk2⟩ := hrel
        have hbel := Lib.hid hg.out.below
        have hbox := hg.out.box
        obtain ⟨ce0, fce0, ce1, fce1, ce2, fce2, ce3, fce3, ce4, fce4, lce⟩ := Blk.five (hbox)
        by_cases hi : i < L
        · have gi : decide ((i : Int) < (L : Int)) = true := by simpa using hi
          have gin : decide (i < L) = true := by simpa using hi
          have hil : i < kids.length := by rw [HL.out]; exact hi
          have hr : kids[i]? = some kids[i] := List.getElem?_eq_getElem hil
          have hx := h8 i _ hr
          have hdr : (kids.map Ex.c).drop i = kids[i].c :: (kids.map Ex.c).drop (i + 1) := by
           rw [← List.map_drop, List.drop_eq_getElem_cons hil, List.map_cons, List.map_drop]
          obtain ⟨rfl, hbl⟩ := h7 (by omega)
          generalize kids[i] = x at *
          clear hr hbox hil
          have e2 : (decide ((5 : Int) = 2) && decide (0 < i)) = false := by simp only [show ¬ ((5 : Int) = 2) by decide, decide_false, Bool.false_and]
          have e4 : (decide ((5 : Int) = 4) && decide (0 < i)) = false := by simp only [show ¬ ((5 : Int) = 4) by decide, decide_false, Bool.false_and]
          have hX := fun wx hb hd => HIH.out false false x wx (hx.2.below (w' := wx) _ hb) hd
          obtain ⟨M, hM⟩ : ∃ M, shapeP h false false x.c = M := ⟨_, rfl⟩
          rw [hM] at hX
          have hlaw := hY.out
          rw [shapeL_drop hdr] at hlaw
          rw [e2, e4, hM] at hlaw
          clear e2 e4
          obtain ⟨k', n', d', u', oa', b', o', cap', kids'⟩ := x
          obtain ⟨K', hK'⟩ : ∃ K', kids'.length = K' := ⟨_, rfl⟩
          simp only [xv_mk, hK'] at hX
          have HX := Lib.hid hX
          have f0 : wr.cell? ⟨b, o + i * 5, none⟩ = some (.int .i64 k') := (hbel.out.cell hbl).trans (hx.1 0 _ rfl)
          have f1 : wr.cell? ⟨b, o + i * 5 + 1, none⟩ = some (.int .i64 n') := (hbel.out.cell hbl).trans (hx.1 1 _ rfl)
          have f2 : wr.cell? ⟨b, o + i * 5 + 2, none⟩ = some (.int .i64 d') := (hbel.out.cell hbl).trans (hx.1 2 _ rfl)
          have f3 : wr.cell? ⟨b, o + i * 5 + 3, none⟩ = some (.int .i64 u') := (hbel.out.cell hbl).trans (hx.1 3 _ rfl)
          have f4 : wr.cell? ⟨b, o + i * 5 + 4, none⟩ = some (.slice oa' K' cap') := by rw [← hK']; exact (hbel.out.cell hbl).trans (hx.1 4 _ rfl)
          have HLW := Lib.hid hlaw
          clear hx hlaw hY hdr h8 h7 hX hM hK'
          cases M with
          | false =>
            go_wp2_with fail
            ((with_reducible refine (HX.out _ (hbel.out.alloc hbel.out.size _) (HD.out.below (hbel.out.alloc hbel.out.size _))).mono ?_); rintro e w' ⟨rfl, hbw⟩)
            obtain ⟨m, rfl⟩ := grow_mk hbw
            clear hbw
            have hK0 := Lib.hid (show K = false from by have := HLW.out; simpa using this)
            go_wp2_with fail
            go_ret
            exact ⟨ret_bool hK0.out.symm, below_grow (hbel.out.alloc hbel.out.size _) m⟩
          | true =>
            go_wp2_with fail
            ((with_reducible refine (HX.out _ (hbel.out.alloc hbel.out.size _) (HD.out.below (hbel.out.alloc hbel.out.size _))).mono ?_); rintro e w' ⟨rfl, hbw⟩)
            obtain ⟨m, rfl⟩ := grow_mk hbw
            clear hbw
            go_wp2_with fail
            go_roundg (L - (i + 1))
            case measure => omega
            case rel => exact ⟨i + 1, by go_num, Lib.hid ⟨below_grow (hbel.out.alloc hbel.out.size _) m, (hg.out.box.old _).grow m⟩, hi, Lib.hid (by have := HLW.out; simpa using this), Nat.le_refl _⟩
        · obtain rfl : i = L := by omega
          have gi : decide ((i : Int) < (i : Int)) = false := by simp
          have gin : decide (i < i) = false := by simp
          have hKf : K = true := by
           rw [hY.out, List.drop_eq_nil_of_le (by rw [List.length_map, HL.out]; exact Nat.le_refl _)]
           rfl
          have HKf := Lib.hid hKf
          clear hKf hbox hY h8 h7
          go_wp2_with fail
          go_ret
          exact ⟨ret_bool HKf.out.symm, hbel.out⟩
   have gk5 : (k == 5) = false := by simpa using hk5
   have hS : K = shapeL h k 0 (kids.map Ex.c) := by
    rw [← hK2]
    unfold flagP
    rw [if_neg (by omega), if_neg hk3, if_neg hk5, Bool.true_and]
   have HS := Lib.hid hS
   have HN := Lib.hid (And.intro hk2 hk4)
   clear hK2 hS hk2 hk3 hk4 hk5
   have HY0 := Lib.hid (show K = shapeL h k 0 ((kids.map Ex.c).drop 0) from by rw [List.drop_zero]; exact HS.out)
   go_enter Tryz.func16, Tryz.ntmps16
   go_wp2_with fail
   go_loopg [45] L (fun kk s45 wr => ∃ (i : Nat), s45 = .int .i64 i ∧ Hid (Gk w wr 27 #[.int .i64 k, .int .i64 n, .int .i64 d, .int .i64 u, .slice oa L cap]) ∧ i ≤ L ∧ Hid (K = shapeL h k i ((kids.map Ex.c).drop i)) ∧ L - i ≤ kk)
   case atStart => exact ⟨0, rfl, Lib.hid ⟨below_box _ _, Blk.new _ _ _⟩, Nat.zero_le _, HY0, by omega⟩
   case round =>
    obtain ⟨i, rfl, hg, hle, hY, hk2⟩ := hrel
    have hbel := Lib.hid hg.out.below
    have hbox := hg.out.box
    obtain ⟨ce0, fce0, ce1, fce1, ce2, fce2, ce3, fce3, ce4, fce4, lce⟩ := Blk.five (hbox)
    by_cases hi : i < L
    · have gi : decide ((i : Int) < (L : Int)) = true := by simpa using hi
      have gin : decide (i < L) = true := by simpa using hi
      have hil : i < kids.length := by rw [HL.out]; exact hi
      have hr : kids[i]? = some kids[i] := List.getElem?_eq_getElem hil
      have hx := h8 i _ hr
      have hdr : (kids.map Ex.c).drop i = kids[i].c :: (kids.map Ex.c).drop (i + 1) := by
       rw [← List.map_drop, List.drop_eq_getElem_cons hil, List.map_cons, List.map_drop]
      obtain ⟨rfl, hbl⟩ := h7 (by omega)
      generalize kids[i] = x at *
      clear hr hbox hil
      have e2 : (decide ((k : Int) = 2) && decide (0 < i)) = false := by simp only [HN.out.1, decide_false, Bool.false_and]
      have e4 : (decide ((k : Int) = 4) && decide (0 < i)) = false := by simp only [HN.out.2, decide_false, Bool.false_and]
      have hX := fun wx hb hd => HIH.out false false x wx (hx.2.below (w' := wx) _ hb) hd
      obtain ⟨M, hM⟩ : ∃ M, shapeP h false false x.c = M := ⟨_, rfl⟩
      rw [hM] at hX
      have hlaw := hY.out
      rw [shapeL_drop hdr] at hlaw
      rw [e2, e4, hM] at hlaw
      clear e2 e4
      obtain ⟨k', n', d', u', oa', b', o', cap', kids'⟩ := x
      obtain ⟨K', hK'⟩ : ∃ K', kids'.length = K' := ⟨_, rfl⟩
      simp only [xv_mk, hK'] at hX
      have HX := Lib.hid hX
      have f0 : wr.cell? ⟨b, o + i * 5, none⟩ = some (.int .i64 k') := (hbel.out.cell hbl).trans (hx.1 0 _ rfl)
      have f1 : wr.cell? ⟨b, o + i * 5 + 1, none⟩ = some (.int .i64 n') := (hbel.out.cell hbl).trans (hx.1 1 _ rfl)
      have f2 : wr.cell? ⟨b, o + i * 5 + 2, none⟩ = some (.int .i64 d') := (hbel.out.cell hbl).trans (hx.1 2 _ rfl)
      have f3 : wr.cell? ⟨b, o + i * 5 + 3, none⟩ = some (.int .i64 u') := (hbel.out.cell hbl).trans (hx.1 3 _ rfl)
      have f4 : wr.cell? ⟨b, o + i * 5 + 4, none⟩ = some (.slice oa' K' cap') := by rw [← hK']; exact (hbel.out.cell hbl).trans (hx.1 4 _ rfl)
      have HLW := Lib.hid hlaw
      clear hx hlaw hY hdr h8 h7 hX hM hK'
      cases M with
      | false =>
        go_wp2_with fail
        ((with_reducible refine (HX.out _ (hbel.out.alloc hbel.out.size _) (HD.out.below (hbel.out.alloc hbel.out.size _))).mono ?_); rintro e w' ⟨rfl, hbw⟩)
        obtain ⟨m, rfl⟩ := grow_mk hbw
        clear hbw
        have hK0 := Lib.hid (show K = false from by have := HLW.out; simpa using this)
        go_wp2_with fail
        go_ret
        exact ⟨ret_bool hK0.out.symm, below_grow (hbel.out.alloc hbel.out.size _) m⟩
      | true =>
        go_wp2_with fail
        ((with_reducible refine (HX.out _ (hbel.out.alloc hbel.out.size _) (HD.out.below (hbel.out.alloc hbel.out.size _))).mono ?_); rintro e w' ⟨rfl, hbw⟩)
        obtain ⟨m, rfl⟩ := grow_mk hbw
        clear hbw
        go_wp2_with fail
        go_roundg (L - (i + 1))
        case measure => omega
        case rel => exact ⟨i + 1, by go_num, Lib.hid ⟨below_grow (hbel.out.alloc hbel.out.size _) m, (hg.out.box.old _).grow m⟩, hi, Lib.hid (by have := HLW.out; simpa using this), Nat.le_refl _⟩
    · obtain rfl : i = L := by omega
      have gi : decide ((i : Int) < (i : Int)) = false := by simp
      have gin : decide (i < i) = false := by simp
      have hKf : K = true := by
       rw [hY.out, List.drop_eq_nil_of_le (by rw [List.length_map, HL.out]; exact Nat.le_refl _)]
       rfl
      have HKf := Lib.hid hKf
      clear hKf hbox hY h8 h7
      go_wp2_with fail
      go_ret
      exact ⟨ret_bool HKf.out.symm, hbel.out⟩
end Go.Proofs.YtplnhjmomomphaaGreatDoor

namespace Go.Proofs.YtplnhjmomomphaaGreatDoor
set_option linter.unusedVariables false
set_option linter.unusedSimpArgs false
open Go.RowKit
/-- one of a joined text's pieces -/
def pieceX (O : Et → List UInt8) (t : Int) (a b : UInt8) (i : Nat) (e : Et) : List UInt8 := if i = 0 then O e else if e.kind = t then [32, b, 32] ++ O (kid0 e) else [32, a, 32] ++ O e
def piecesX (O : Et → List UInt8) (t : Int) (a b : UInt8) : Nat → List Et → List UInt8
 | _, [] => []
 | i, e :: r => pieceX O t a b i e ++ piecesX O t a b (i + 1) r
theorem more_pieces (O : Et → List UInt8) (t : Int) (a b : UInt8) : ∀ (l : List Et) (i : Nat), moreX O t a b l = piecesX O t a b (i + 1) l
 | [], _ => rfl
 | e :: r, i => by
   rw [moreX_cons, piecesX, more_pieces O t a b r (i + 1)]
   show _ = (if i + 1 = 0 then _ else _) ++ _
   rw [if_neg (Nat.succ_ne_zero i)]
theorem join_pieces (O : Et → List UInt8) (t : Int) (a b : UInt8) (l : List Et) : joinX O t a b l = piecesX O t a b 0 l := by
 cases l with
 | nil => rfl
 | cons e r => rw [joinX, piecesX, more_pieces O t a b r 0, pieceX, if_pos rfl]
theorem pieces_drop {O : Et → List UInt8} {t : Int} {a b : UInt8} {l : List Et} {i : Nat} {x : Et} (hx : l.drop i = x :: l.drop (i + 1)) : piecesX O t a b i (l.drop i) = pieceX O t a b i x ++ piecesX O t a b (i + 1) (l.drop (i + 1)) := by
 rw [hx, piecesX]
/-- what a function of the writer's promises -/
def WrtAt (f : FuncId) (X : Et → List UInt8) (w0 : World) (C : Ex → Prop) : Prop := ∀ (e : Ex) (B b : Nat) (l : List UInt8) (w : World), C e → w0.heap.size ≤ B → Below w0.heap.size w0 w → IsW B b l w → B ≤ w.heap.size → l.length + (X e.c).length ≤ 140737488355328 →
 Calls Tryz.prog f #[.pointer (some ⟨b, 0, none⟩), xv e] w fun x w' => x = .returned (.tuple #[]) ∧ Wb B b (l ++ X e.c) w w'
def WSumAt (w0 : World) (h : Nat) : Prop := WrtAt 18 (sumT h) w0 fun e => ExIn w0 h e ∧ Wr h e.c
def WOperAt (w0 : World) (h : Nat) : Prop := WrtAt 19 (operX (sumT h)) w0 fun e => ExIn w0 (h + 1) e ∧ Wr (h + 1) e.c ∧ (e.c.kind = 2 ∨ e.c.kind = 4 → ExIn w0 h e ∧ Wr h e.c)
def WProdAt (w0 : World) (h : Nat) : Prop := WrtAt 39 (prodX (sumT h)) w0 fun e => ExIn w0 (h + 1) e ∧ Wr (h + 1) e.c ∧ (e.c.kind = 2 → ExIn w0 h e ∧ Wr h e.c)
/-- one of the kids, as the next function wants it -/
theorem oper_kid {w0 : World} {h : Nat} {e : Ex} (hx : ExIn w0 h e) (hw : Wr h e.c) : ExIn w0 (h + 1) e ∧ Wr (h + 1) e.c ∧ (e.c.kind = 2 ∨ e.c.kind = 4 → ExIn w0 h e ∧ Wr h e.c) := ⟨ExIn.mono h (h + 1) (by omega) hx, hw.more, fun _ => ⟨hx, hw⟩⟩
theorem prod_kid {w0 : World} {h : Nat} {e : Ex} (hx : ExIn w0 h e) (hw : Wr h e.c) : ExIn w0 (h + 1) e ∧ Wr (h + 1) e.c ∧ (e.c.kind = 2 → ExIn w0 h e ∧ Wr h e.c) := ⟨ExIn.mono h (h + 1) (by omega) hx, hw.more, fun _ => ⟨hx, hw⟩⟩
theorem neExpr : 27 ≠ 5 := by decide
/-- the kid of what is turned -/
theorem turned_kid {w0 : World} {h : Nat} {k n d u : Int} {oa : Option Addr} {b o cap : Nat} {kids : List Ex} (hx : ExIn w0 h (.mk k n d u oa b o cap kids)) (hw : Wk h (Ex.mk k n d u oa b o cap kids).c) (hk : k = 3 ∨ k = 5) :
 ∃ y, kids = [y] ∧ oa = some ⟨b, o, none⟩ ∧ b < w0.heap.size ∧ (∀ j v, (xcells y)[j]? = some v → w0.cell? ⟨b, o + j, none⟩ = some v) ∧ ExIn w0 h y ∧ Wr h y.c ∧ kid0 (Ex.mk k n d u oa b o cap kids).c = y.c := by
 cases h with
 | zero => exact hx.elim
 | succ h =>
   rw [Ex.c_mk] at hw
   obtain ⟨y', hy, hwr⟩ := hw.turned hk
   obtain ⟨y, rfl, rfl⟩ : ∃ y, kids = [y] ∧ y.c = y' := by
    match kids, hy with
    | [y], hy => exact ⟨y, rfl, by simpa using hy⟩
   obtain ⟨_, _, _, _, _, _, h7, h8⟩ := hx
   obtain ⟨e1, e2⟩ := h7 (by simp)
   have h0 := h8 0 y rfl
   refine ⟨y, rfl, e1, e2, fun j v hv => ?_, ExIn.mono h (h + 1) (by omega) h0.2, hwr.more, ?_⟩
   · have := h0.1 j v hv
     rwa [Nat.zero_mul, Nat.add_zero] at this
   · rw [Ex.c_mk]
     rfl
set_option maxRecDepth 20000 in
set_option maxHeartbeats 8000000 in
theorem wproduct_step (w0 : World) (h : Nat) (HO : WOperAt w0 h) : WProdAt w0 h := by
 intro e B b l w hC hB0 hb0 hW hBw hlen
 obtain ⟨hx, hwr, h2⟩ := hC
 have HP := Lib.hid HO
 clear HO
 obtain ⟨k, n, d, u, oa, bb, o, cap, kids⟩ := e
 have hbw := hW.lt
 have hne : w.heap.size ≠ b := by omega
 by_cases hk : k = 4
 · subst hk
   have hT : prodX (sumT h) (Ex.mk 4 n d u oa bb o cap kids).c = piecesX (operX (sumT h)) 5 42 47 0 (kids.map Ex.c) := by
    rw [Ex.c_mk, prodX_prod rfl, join_pieces]
   rw [hT] at hlen ⊢
   clear hT
   have hwk : Wk (h + 1) (Ex.mk 4 n d u oa bb o cap kids).c := ⟨hwr.1, hwr.2.1⟩
   rw [Ex.c_mk] at hwk
   obtain ⟨h1, h2, h3, h4, h5, h6, h7, h8⟩ := hx
   have hsm : kids.length ≤ 9223372036854775807 := Nat.le_trans (Nat.le_trans h4 h5) (by decide)
   obtain ⟨X, hX⟩ : ∃ X, piecesX (operX (sumT h)) 5 42 47 0 (kids.map Ex.c) = X := ⟨_, rfl⟩
   rw [hX] at hlen ⊢
   rw [xv_mk]
   obtain ⟨L, hL⟩ : ∃ L, kids.length = L := ⟨_, rfl⟩
   rw [hL] at hsm h4 h7 ⊢
   have HL := Lib.hid hL
   have HWK := Lib.hid hwk
   have HX0 := Lib.hid (show [] ++ piecesX (operX (sumT h)) 5 42 47 0 ((kids.map Ex.c).drop 0) = X from hX)
   have HB0 := Lib.hid (And.intro hB0 (And.intro hb0 hBw))
   have HLEN := Lib.hid hlen
   have hw1 : Wb B b (l ++ []) w (w.alloc (.cells #[.int .i64 4, .int .i64 n, .int .i64 d, .int .i64 u, .slice oa L cap] 27)) := by rw [List.append_nil]; exact Wb.stays hW hBw (below_box _ _)
   have hx1 := Blk.new w 27 #[.int .i64 4, .int .i64 n, .int .i64 d, .int .i64 u, .slice oa L cap]
   have HW1 := Lib.hid (And.intro hw1 hx1)
   have HNE := Lib.hid hne
   clear hw1 hx1 hL hwk hX hB0 hb0 hBw hlen hwr hW h1 h2 h3 h5 h6
   go_enter Tryz.func39, Tryz.ntmps39
   go_wp2_with fail
   go_loopg [15] L (fun kk s15 wr => ∃ (i : Nat) (D : List UInt8), s15 = .int .i64 i ∧ Hid (Wb B b (l ++ D) w wr ∧ Blk wr w.heap.size 27 #[.int .i64 4, .int .i64 n, .int .i64 d, .int .i64 u, .slice oa L cap]) ∧ i ≤ L ∧ Hid (D ++ piecesX (operX (sumT h)) 5 42 47 i ((kids.map Ex.c).drop i) = X) ∧ L - i ≤ kk)
   case atStart => exact ⟨0, [], rfl, HW1, Nat.zero_le _, HX0, by omega⟩
   case round =>
    obtain ⟨i, D, rfl, hg, hle, hY, hk2⟩ := hrel
    have hbel := Lib.hid (Below.trans HB0.out.2.1 (hg.out.1.below.mono HB0.out.1))
    by_cases hi : i < L
    · have gi : decide ((i : Int) < (L : Int)) = true := by simpa using hi
      have gin : decide (i < L) = true := by simpa using hi
      have hil : i < kids.length := by rw [HL.out]; exact hi
      have hr : kids[i]? = some kids[i] := List.getElem?_eq_getElem hil
      have hx := h8 i _ hr
      have hdr : (kids.map Ex.c).drop i = kids[i].c :: (kids.map Ex.c).drop (i + 1) := by
       rw [← List.map_drop, List.drop_eq_getElem_cons hil, List.map_cons, List.map_drop]
      have hci : (kids.map Ex.c)[i]? = some kids[i].c := by rw [List.getElem?_map, hr]; rfl
      obtain ⟨hwx, hkr⟩ := HWK.out.kid (by decide) hci
      have hfirst := fun h0 : i = 0 => HWK.out.first (by decide) (x := kids[i].c) (by rw [← hci, h0])
      have hsame := fun hk : kids[i].c.kind ≠ 5 => HWK.out.same (by decide) hci (fun e => by intro e2; revert e2; decide) (fun e => by exact absurd e hk)
      obtain ⟨rfl, hbl⟩ := h7 (by omega)
      generalize kids[i] = x at *
      have hlaw := hY.out
      rw [pieces_drop hdr] at hlaw
      clear hr hil hci hdr h7 h8 hkr hY
      obtain ⟨k', n', d', u', oa', b', o', cap', kids'⟩ := x
      obtain ⟨L', hL'⟩ : ∃ L', kids'.length = L' := ⟨_, rfl⟩
      have f0 : wr.cell? ⟨bb, o + i * 5, none⟩ = some (.int .i64 k') := (hbel.out.cell hbl).trans (hx.1 0 _ rfl)
      have f1 : wr.cell? ⟨bb, o + i * 5 + 1, none⟩ = some (.int .i64 n') := (hbel.out.cell hbl).trans (hx.1 1 _ rfl)
      have f2 : wr.cell? ⟨bb, o + i * 5 + 2, none⟩ = some (.int .i64 d') := (hbel.out.cell hbl).trans (hx.1 2 _ rfl)
      have f3 : wr.cell? ⟨bb, o + i * 5 + 3, none⟩ = some (.int .i64 u') := (hbel.out.cell hbl).trans (hx.1 3 _ rfl)
      have f4 : wr.cell? ⟨bb, o + i * 5 + 4, none⟩ = some (.slice oa' L' cap') := by rw [← hL']; exact (hbel.out.cell hbl).trans (hx.1 4 _ rfl)
      have HLW := Lib.hid hlaw
      have HX := Lib.hid (And.intro hx.2 hwx)
      have HFI := Lib.hid (And.intro hfirst hsame)
      clear hx hwx hfirst hsame hlaw
      go_upto_region 8 with fail
      have hbr : B ≤ wr.heap.size := Nat.le_trans HB0.out.2.2 hg.out.1.below.size
      have hw7 := hg.out.1.trans (Wb.stays hg.out.1.is hbr (below_box wr (.cells #[.int .i64 k', .int .i64 n', .int .i64 d', .int .i64 u', .slice oa' L' cap'] 27)))
      have hk7 := Blk.new wr 27 #[.int .i64 k', .int .i64 n', .int .i64 d', .int .i64 u', .slice oa' L' cap']
      have hn7 : wr.heap.size ≠ b := by have := hg.out.1.is.lt; omega
      have HX7 := Lib.hid (hg.out.2.old (.cells #[.int .i64 k', .int .i64 n', .int .i64 d', .int .i64 u', .slice oa' L' cap'] 27))
      have HBT := Lib.hid (show Below w0.heap.size w0 (wr.alloc (.cells #[.int .i64 k', .int .i64 n', .int .i64 d', .int .i64 u', .slice oa' L' cap'] 27)) from hbel.out.trans ((below_box _ _).mono hbel.out.size))
      have hb7 : B ≤ (wr.alloc (.cells #[.int .i64 k', .int .i64 n', .int .i64 d', .int .i64 u', .slice oa' L' cap'] 27)).heap.size := Nat.le_trans hbr (below_box _ _).size
      obtain ⟨g7, hg7⟩ : ∃ g7, wr.heap.size = g7 := ⟨_, rfl⟩
      rw [hg7] at hk7 hn7
      simp only [hg7]
      clear hg7 f0 f1 f2 f3 f4 hbr
      generalize wr.alloc _ = w7 at *
      have HW7 := Lib.hid (And.intro hw7 (And.intro hk7 (And.intro hn7 hb7)))
      have HK7 := Lib.hid hk7
      obtain ⟨cg0, fcg0, cg1, fcg1, cg2, fcg2, cg3, fcg3, cg4, fcg4, lcg⟩ := Blk.five (hk7)
      clear hw7 hk7 hn7 hb7
      by_cases hi0 : i = 0
      · have ge : ((i : Int) == 0) = true := by simp; omega
        have ge2 : (i == 0) = true := by simp; omega
        have hP : pieceX (operX (sumT h)) 5 42 47 i (Ex.mk k' n' d' u' (oa') b' o' cap' kids').c = operX (sumT h) (Ex.mk k' n' d' u' oa' b' o' cap' kids').c := by rw [pieceX, if_pos hi0]
        have hcall := HP.out (Ex.mk k' n' d' u' oa' b' o' cap' kids') B b (l ++ D) w7 (oper_kid HX.out.1 (HFI.out.1 hi0)) HB0.out.1 HBT.out HW7.out.1.is HW7.out.2.2.2 (by
         have := HLEN.out
         rw [← HLW.out, hP] at this
         simp only [List.length_append] at this ⊢
         omega)
        have hlw2 := HLW.out
        rw [hP] at hlw2
        rw [xv_mk, hL'] at hcall
        have HLW := Lib.hid hlw2
        have HCALL := Lib.hid hcall
        clear hcall hP hlw2 hi0
        go_wp2_with fail
        ((with_reducible refine HCALL.out.mono ?_); rintro e w' ⟨rfl, hwb⟩)
        have HWB := Lib.hid hwb
        clear hwb
        have HW9 := Lib.hid (show Wb B b (l ++ D ++ operX (sumT h) _) w w' ∧ Blk w' w.heap.size 27 #[.int .i64 4, .int .i64 n, .int .i64 d, .int .i64 u, .slice (some ⟨bb, o, none⟩) L cap] from ⟨HW7.out.1.trans HWB.out, HWB.out.keep _ _ _ HNE.out neExpr HX7.out⟩)
        go_wp2_with fail
        go_roundg (L - (i + 1))
        case measure => omega
        case rel => exact ⟨i + 1, D ++ _, by go_num, Lib.hid ⟨by have := HW9.out.1; first | exact this | simpa only [List.append_assoc] using this, HW9.out.2⟩, hi, Lib.hid (by have := HLW.out; first | exact this | simpa only [List.append_assoc] using this), Nat.le_refl _⟩
      · have ge : ((i : Int) == 0) = false := by simp; omega
        have ge2 : (i == 0) = false := by simp; omega
        by_cases hkt : k' = 5
        · subst hkt
          obtain ⟨y, rfl, rfl, hbl', hcy, hxy, hwy, hk0⟩ := turned_kid HX.out.1 HX.out.2 (by omega)
          have hP : pieceX (operX (sumT h)) 5 42 47 i (Ex.mk 5 n' d' u' (some ⟨b', o', none⟩) b' o' cap' [y]).c = [32, 47, 32] ++ operX (sumT h) y.c := by
           rw [pieceX, if_neg hi0, hk0, Ex.c_mk, kind_mk, if_pos rfl]
          have hln := HLEN.out
          rw [← HLW.out, hP] at hln
          simp only [List.length_append] at hln
          have hput := writeString_any B b (l ++ D) [32, 47, 32] w7 HW7.out.1.is (by simp only [List.length_append]; omega) HW7.out.2.2.2
          have hcall := fun wx (hwx : Wb B b ((l ++ D) ++ [32, 47, 32]) w7 wx) => HP.out y B b ((l ++ D) ++ [32, 47, 32]) wx (oper_kid hxy hwy) HB0.out.1 (HBT.out.trans (hwx.below.mono HB0.out.1)) hwx.is (Nat.le_trans HW7.out.2.2.2 hwx.below.size) (by
           simp only [List.length_append]
           omega)
          have hlw2 := HLW.out
          rw [hP] at hlw2
          obtain ⟨k2, n2, d2, u2, oa2, b2, o2, cap2, kids2⟩ := y
          obtain ⟨L2, hL2⟩ : ∃ L2, kids2.length = L2 := ⟨_, rfl⟩
          simp only [xv_mk, hL2] at hcall
          obtain rfl : L' = 1 := by rw [← hL']; rfl
          have HLW := Lib.hid hlw2
          have HCALL := Lib.hid hcall
          have HPUT := Lib.hid hput
          have HCY := Lib.hid (And.intro hbl' hcy)
          have HL2 := Lib.hid hL2
          clear hcall hP hlw2 hi0 hput hln hk0 hbl' hcy hxy hwy hL2 hL'
          go_wp2_with fail
          ((with_reducible refine HPUT.out.mono ?_); rintro e w8 ⟨rfl, hw8⟩)
          have HW8 := Lib.hid hw8
          have hk8 := hw8.keep _ _ _ HW7.out.2.2.1 neExpr HK7.out
          have hc8 := HCALL.out w8 hw8
          have hb8 := Lib.hid (HBT.out.trans (hw8.below.mono HB0.out.1))
          have q0 : w8.cell? ⟨b', o', none⟩ = some (.int .i64 k2) := (hb8.out.cell HCY.out.1).trans (HCY.out.2 0 _ rfl)
          have q1 : w8.cell? ⟨b', o' + 1, none⟩ = some (.int .i64 n2) := (hb8.out.cell HCY.out.1).trans (HCY.out.2 1 _ rfl)
          have q2 : w8.cell? ⟨b', o' + 2, none⟩ = some (.int .i64 d2) := (hb8.out.cell HCY.out.1).trans (HCY.out.2 2 _ rfl)
          have q3 : w8.cell? ⟨b', o' + 3, none⟩ = some (.int .i64 u2) := (hb8.out.cell HCY.out.1).trans (HCY.out.2 3 _ rfl)
          have q4 : w8.cell? ⟨b', o' + 4, none⟩ = some (.slice oa2 L2 cap2) := by rw [← HL2.out]; exact (hb8.out.cell HCY.out.1).trans (HCY.out.2 4 _ rfl)
          obtain ⟨ch0, fch0, ch1, fch1, ch2, fch2, ch3, fch3, ch4, fch4, lch⟩ := Blk.five (hk8)
          have HC8 := Lib.hid hc8
          clear hw8 hk8 hc8
          go_wp2_with fail
          ((with_reducible refine HC8.out.mono ?_); rintro e w' ⟨rfl, hwb⟩)
          have HWB := Lib.hid (HW8.out.trans hwb)
          clear hwb
          have HW9 := Lib.hid (show Wb B b (l ++ D ++ [32, 47, 32] ++ operX (sumT h) _) w w' ∧ Blk w' w.heap.size 27 #[.int .i64 4, .int .i64 n, .int .i64 d, .int .i64 u, .slice (some ⟨bb, o, none⟩) L cap] from ⟨HW7.out.1.trans HWB.out, HWB.out.keep _ _ _ HNE.out neExpr HX7.out⟩)
          go_wp2_with fail
          go_roundg (L - (i + 1))
          case measure => omega
          case rel => exact ⟨i + 1, D ++ _, by go_num, Lib.hid ⟨by have := HW9.out.1; first | exact this | simpa only [List.append_assoc] using this, HW9.out.2⟩, hi, Lib.hid (by have := HLW.out; first | exact this | simpa only [List.append_assoc] using this), Nat.le_refl _⟩
        · have gk : (k' == 5) = false := by simpa using hkt
          have hP : pieceX (operX (sumT h)) 5 42 47 i (Ex.mk k' n' d' u' oa' b' o' cap' kids').c = [32, 42, 32] ++ operX (sumT h) (Ex.mk k' n' d' u' oa' b' o' cap' kids').c := by
           rw [pieceX, if_neg hi0, Ex.c_mk, kind_mk, if_neg hkt]
          have hln := HLEN.out
          rw [← HLW.out, hP] at hln
          simp only [List.length_append] at hln
          have hput := writeString_any B b (l ++ D) [32, 42, 32] w7 HW7.out.1.is (by simp only [List.length_append]; omega) HW7.out.2.2.2
          have hcall := fun wx (hwx : Wb B b ((l ++ D) ++ [32, 42, 32]) w7 wx) => HP.out (Ex.mk k' n' d' u' oa' b' o' cap' kids') B b ((l ++ D) ++ [32, 42, 32]) wx (oper_kid HX.out.1 (HFI.out.2 (by rw [Ex.c_mk]; exact hkt))) HB0.out.1 (HBT.out.trans (hwx.below.mono HB0.out.1)) hwx.is (Nat.le_trans HW7.out.2.2.2 hwx.below.size) (by
           simp only [List.length_append]
           omega)
          have hlw2 := HLW.out
          rw [hP] at hlw2
          simp only [xv_mk, hL'] at hcall
          have HLW := Lib.hid hlw2
          have HCALL := Lib.hid hcall
          have HPUT := Lib.hid hput
          clear hcall hP hlw2 hi0 hput hln hL' hkt
          go_wp2_with fail
          ((with_reducible refine HPUT.out.mono ?_); rintro e w8 ⟨rfl, hw8⟩)
          have HW8 := Lib.hid hw8
          have hk8 := hw8.keep _ _ _ HW7.out.2.2.1 neExpr HK7.out
          have hc8 := HCALL.out w8 hw8
          obtain ⟨ch0, fch0, ch1, fch1, ch2, fch2, ch3, fch3, ch4, fch4, lch⟩ := Blk.five (hk8)
          have HC8 := Lib.hid hc8
          clear hw8 hk8 hc8
          go_wp2_with fail
          ((with_reducible refine HC8.out.mono ?_); rintro e w' ⟨rfl, hwb⟩)
          have HWB := Lib.hid (HW8.out.trans hwb)
          clear hwb
          have HW9 := Lib.hid (show Wb B b (l ++ D ++ [32, 42, 32] ++ operX (sumT h) _) w w' ∧ Blk w' w.heap.size 27 #[.int .i64 4, .int .i64 n, .int .i64 d, .int .i64 u, .slice (some ⟨bb, o, none⟩) L cap] from ⟨HW7.out.1.trans HWB.out, HWB.out.keep _ _ _ HNE.out neExpr HX7.out⟩)
          go_wp2_with fail
          go_roundg (L - (i + 1))
          case measure => omega
          case rel => exact ⟨i + 1, D ++ _, by go_num, Lib.hid ⟨by have := HW9.out.1; first | exact this | simpa only [List.append_assoc] using this, HW9.out.2⟩, hi, Lib.hid (by have := HLW.out; first | exact this | simpa only [List.append_assoc] using this), Nat.le_refl _⟩
    · obtain rfl : i = L := by omega
      have gi : decide ((i : Int) < (i : Int)) = false := by simp
      have gin : decide (i < i) = false := by simp
      have hD : D = X := by
       have := hY.out
       rw [List.drop_eq_nil_of_le (by rw [List.length_map, HL.out]; exact Nat.le_refl _)] at this
       simpa [piecesX] using this
      subst hD
      have HG := Lib.hid hg.out.1
      clear h7 h8
      go_wp2_with fail
      go_end0
      exact ⟨rfl, HG.out⟩
 · have gkn : (k != 4) = true := by simpa using hk
   have hk4 : (Ex.mk k n d u oa bb o cap kids).c.kind ≠ 4 := by rw [Ex.c_mk]; exact hk
   have hT : prodX (sumT h) (Ex.mk k n d u oa bb o cap kids).c = operX (sumT h) (Ex.mk k n d u oa bb o cap kids).c := prodX_other hk4
   rw [hT] at hlen ⊢
   have hw1 := Wb.stays hW hBw (below_box w (.cells #[.int .i64 k, .int .i64 n, .int .i64 d, .int .i64 u, .slice oa kids.length cap] 27))
   have hcall := HP.out (Ex.mk k n d u oa bb o cap kids) B b l (w.alloc (.cells #[.int .i64 k, .int .i64 n, .int .i64 d, .int .i64 u, .slice oa kids.length cap] 27)) ⟨hx, hwr, fun hh => h2 (hh.resolve_right hk4)⟩ hB0 (hb0.trans ((below_box _ _).mono hb0.size)) hw1.is (Nat.le_trans hBw (below_box _ _).size) hlen
   rw [xv_mk] at hcall ⊢
   have HCALL := Lib.hid hcall
   have HW1 := Lib.hid hw1
   clear hcall hw1 hT hlen hk4 hk hW hwr hx
   go_enter Tryz.func39, Tryz.ntmps39
   go_wp2_with fail
   ((with_reducible refine HCALL.out.mono ?_); rintro e w' ⟨rfl, hwb⟩)
   have HWB := Lib.hid hwb
   clear hwb
   go_wp2_with fail
   (try simp only [Exit.inBlock, Exit.then])
   refine bodyPost_ret (results_none rfl _ _ _) rfl ?_
   exact ⟨rfl, HW1.out.trans HWB.out⟩
set_option maxRecDepth 20000 in
set_option maxHeartbeats 8000000 in
theorem wsum_step (w0 : World) (h : Nat) (HO : WProdAt w0 h) : WSumAt w0 (h + 1) := by
 intro e B b l w hC hB0 hb0 hW hBw hlen
 obtain ⟨hx, hwr⟩ := hC
 have HP := Lib.hid HO
 clear HO
 obtain ⟨k, n, d, u, oa, bb, o, cap, kids⟩ := e
 have hbw := hW.lt
 have hne : w.heap.size ≠ b := by omega
 by_cases hk : k = 2
 · subst hk
   have hT : sumT (h + 1) (Ex.mk 2 n d u oa bb o cap kids).c = piecesX (prodX (sumT h)) 3 43 45 0 (kids.map Ex.c) := by
    rw [Ex.c_mk, sumT_sum rfl, join_pieces]
   rw [hT] at hlen ⊢
   clear hT
   have hwk : Wk (h + 1) (Ex.mk 2 n d u oa bb o cap kids).c := ⟨hwr.1, hwr.2.1⟩
   rw [Ex.c_mk] at hwk
   obtain ⟨h1, h2, h3, h4, h5, h6, h7, h8⟩ := hx
   have hsm : kids.length ≤ 9223372036854775807 := Nat.le_trans (Nat.le_trans h4 h5) (by decide)
   obtain ⟨X, hX⟩ : ∃ X, piecesX (prodX (sumT h)) 3 43 45 0 (kids.map Ex.c) = X := ⟨_, rfl⟩
   rw [hX] at hlen ⊢
   rw [xv_mk]
   obtain ⟨L, hL⟩ : ∃ L, kids.length = L := ⟨_, rfl⟩
   rw [hL] at hsm h4 h7 ⊢
   have HL := Lib.hid hL
   have HWK := Lib.hid hwk
   have HX0 := Lib.hid (show [] ++ piecesX (prodX (sumT h)) 3 43 45 0 ((kids.map Ex.c).drop 0) = X from hX)
   have HB0 := Lib.hid (And.intro hB0 (And.intro hb0 hBw))
   have HLEN := Lib.hid hlen
   have hw1 : Wb B b (l ++ []) w (w.alloc (.cells #[.int .i64 2, .int .i64 n, .int .i64 d, .int .i64 u, .slice oa L cap] 27)) := by rw [List.append_nil]; exact Wb.stays hW hBw (below_box _ _)
   have hx1 := Blk.new w 27 #[.int .i64 2, .int .i64 n, .int .i64 d, .int .i64 u, .slice oa L cap]
   have HW1 := Lib.hid (And.intro hw1 hx1)
   have HNE := Lib.hid hne
   clear hw1 hx1 hL hwk hX hB0 hb0 hBw hlen hwr hW h1 h2 h3 h5 h6
   go_enter Tryz.func18, Tryz.ntmps18
   go_wp2_with fail
   go_loopg [15] L (fun kk s15 wr => ∃ (i : Nat) (D : List UInt8), s15 = .int .i64 i ∧ Hid (Wb B b (l ++ D) w wr ∧ Blk wr w.heap.size 27 #[.int .i64 2, .int .i64 n, .int .i64 d, .int .i64 u, .slice oa L cap]) ∧ i ≤ L ∧ Hid (D ++ piecesX (prodX (sumT h)) 3 43 45 i ((kids.map Ex.c).drop i) = X) ∧ L - i ≤ kk)
   case atStart => exact ⟨0, [], rfl, HW1, Nat.zero_le _, HX0, by omega⟩
   case round =>
    obtain ⟨i, D, rfl, hg, hle, hY, hk2⟩ := hrel
    have hbel := Lib.hid (Below.trans HB0.out.2.1 (hg.out.1.below.mono HB0.out.1))
    by_cases hi : i < L
    · have gi : decide ((i : Int) < (L : Int)) = true := by simpa using hi
      have gin : decide (i < L) = true := by simpa using hi
      have hil : i < kids.length := by rw [HL.out]; exact hi
      have hr : kids[i]? = some kids[i] := List.getElem?_eq_getElem hil
      have hx := h8 i _ hr
      have hdr : (kids.map Ex.c).drop i = kids[i].c :: (kids.map Ex.c).drop (i + 1) := by
       rw [← List.map_drop, List.drop_eq_getElem_cons hil, List.map_cons, List.map_drop]
      have hci : (kids.map Ex.c)[i]? = some kids[i].c := by rw [List.getElem?_map, hr]; rfl
      obtain ⟨hwx, hkr⟩ := HWK.out.kid (by decide) hci
      have hfirst := fun h0 : i = 0 => HWK.out.first (by decide) (x := kids[i].c) (by rw [← hci, h0])
      have hsame := fun hk : kids[i].c.kind ≠ 3 => HWK.out.same (by decide) hci (fun e => by exact absurd e hk) (fun e => by intro e2; revert e2; decide)
      obtain ⟨rfl, hbl⟩ := h7 (by omega)
      generalize kids[i] = x at *
      have hlaw := hY.out
      rw [pieces_drop hdr] at hlaw
      clear hr hil hci hdr h7 h8 hkr hY
      obtain ⟨k', n', d', u', oa', b', o', cap', kids'⟩ := x
      obtain ⟨L', hL'⟩ : ∃ L', kids'.length = L' := ⟨_, rfl⟩
      have f0 : wr.cell? ⟨bb, o + i * 5, none⟩ = some (.int .i64 k') := (hbel.out.cell hbl).trans (hx.1 0 _ rfl)
      have f1 : wr.cell? ⟨bb, o + i * 5 + 1, none⟩ = some (.int .i64 n') := (hbel.out.cell hbl).trans (hx.1 1 _ rfl)
      have f2 : wr.cell? ⟨bb, o + i * 5 + 2, none⟩ = some (.int .i64 d') := (hbel.out.cell hbl).trans (hx.1 2 _ rfl)
      have f3 : wr.cell? ⟨bb, o + i * 5 + 3, none⟩ = some (.int .i64 u') := (hbel.out.cell hbl).trans (hx.1 3 _ rfl)
      have f4 : wr.cell? ⟨bb, o + i * 5 + 4, none⟩ = some (.slice oa' L' cap') := by rw [← hL']; exact (hbel.out.cell hbl).trans (hx.1 4 _ rfl)
      have HLW := Lib.hid hlaw
      have HX := Lib.hid (And.intro hx.2 hwx)
      have HFI := Lib.hid (And.intro hfirst hsame)
      clear hx hwx hfirst hsame hlaw
      go_upto_region 8 with fail
      have hbr : B ≤ wr.heap.size := Nat.le_trans HB0.out.2.2 hg.out.1.below.size
      have hw7 := hg.out.1.trans (Wb.stays hg.out.1.is hbr (below_box wr (.cells #[.int .i64 k', .int .i64 n', .int .i64 d', .int .i64 u', .slice oa' L' cap'] 27)))
      have hk7 := Blk.new wr 27 #[.int .i64 k', .int .i64 n', .int .i64 d', .int .i64 u', .slice oa' L' cap']
      have hn7 : wr.heap.size ≠ b := by have := hg.out.1.is.lt; omega
      have HX7 := Lib.hid (hg.out.2.old (.cells #[.int .i64 k', .int .i64 n', .int .i64 d', .int .i64 u', .slice oa' L' cap'] 27))
      have HBT := Lib.hid (show Below w0.heap.size w0 (wr.alloc (.cells #[.int .i64 k', .int .i64 n', .int .i64 d', .int .i64 u', .slice oa' L' cap'] 27)) from hbel.out.trans ((below_box _ _).mono hbel.out.size))
      have hb7 : B ≤ (wr.alloc (.cells #[.int .i64 k', .int .i64 n', .int .i64 d', .int .i64 u', .slice oa' L' cap'] 27)).heap.size := Nat.le_trans hbr (below_box _ _).size
      obtain ⟨g7, hg7⟩ : ∃ g7, wr.heap.size = g7 := ⟨_, rfl⟩
      rw [hg7] at hk7 hn7
      simp only [hg7]
      clear hg7 f0 f1 f2 f3 f4 hbr
      generalize wr.alloc _ = w7 at *
      have HW7 := Lib.hid (And.intro hw7 (And.intro hk7 (And.intro hn7 hb7)))
      have HK7 := Lib.hid hk7
      obtain ⟨cg0, fcg0, cg1, fcg1, cg2, fcg2, cg3, fcg3, cg4, fcg4, lcg⟩ := Blk.five (hk7)
      clear hw7 hk7 hn7 hb7
      by_cases hi0 : i = 0
      · have ge : ((i : Int) == 0) = true := by simp; omega
        have ge2 : (i == 0) = true := by simp; omega
        have hP : pieceX (prodX (sumT h)) 3 43 45 i (Ex.mk k' n' d' u' (oa') b' o' cap' kids').c = prodX (sumT h) (Ex.mk k' n' d' u' oa' b' o' cap' kids').c := by rw [pieceX, if_pos hi0]
        have hcall := HP.out (Ex.mk k' n' d' u' oa' b' o' cap' kids') B b (l ++ D) w7 (prod_kid HX.out.1 (HFI.out.1 hi0)) HB0.out.1 HBT.out HW7.out.1.is HW7.out.2.2.2 (by
         have := HLEN.out
         rw [← HLW.out, hP] at this
         simp only [List.length_append] at this ⊢
         omega)
        have hlw2 := HLW.out
        rw [hP] at hlw2
        rw [xv_mk, hL'] at hcall
        have HLW := Lib.hid hlw2
        have HCALL := Lib.hid hcall
        clear hcall hP hlw2 hi0
        go_wp2_with fail
        ((with_reducible refine HCALL.out.mono ?_); rintro e w' ⟨rfl, hwb⟩)
        have HWB := Lib.hid hwb
        clear hwb
        have HW9 := Lib.hid (show Wb B b (l ++ D ++ prodX (sumT h) _) w w' ∧ Blk w' w.heap.size 27 #[.int .i64 2, .int .i64 n, .int .i64 d, .int .i64 u, .slice (some ⟨bb, o, none⟩) L cap] from ⟨HW7.out.1.trans HWB.out, HWB.out.keep _ _ _ HNE.out neExpr HX7.out⟩)
        go_wp2_with fail
        go_roundg (L - (i + 1))
        case measure => omega
        case rel => exact ⟨i + 1, D ++ _, by go_num, Lib.hid ⟨by have := HW9.out.1; first | exact this | simpa only [List.append_assoc] using this, HW9.out.2⟩, hi, Lib.hid (by have := HLW.out; first | exact this | simpa only [List.append_assoc] using this), Nat.le_refl _⟩
      · have ge : ((i : Int) == 0) = false := by simp; omega
        have ge2 : (i == 0) = false := by simp; omega
        by_cases hkt : k' = 3
        · subst hkt
          obtain ⟨y, rfl, rfl, hbl', hcy, hxy, hwy, hk0⟩ := turned_kid HX.out.1 HX.out.2 (by omega)
          have hP : pieceX (prodX (sumT h)) 3 43 45 i (Ex.mk 3 n' d' u' (some ⟨b', o', none⟩) b' o' cap' [y]).c = [32, 45, 32] ++ prodX (sumT h) y.c := by
           rw [pieceX, if_neg hi0, hk0, Ex.c_mk, kind_mk, if_pos rfl]
          have hln := HLEN.out
          rw [← HLW.out, hP] at hln
          simp only [List.length_append] at hln
          have hput := writeString_any B b (l ++ D) [32, 45, 32] w7 HW7.out.1.is (by simp only [List.length_append]; omega) HW7.out.2.2.2
          have hcall := fun wx (hwx : Wb B b ((l ++ D) ++ [32, 45, 32]) w7 wx) => HP.out y B b ((l ++ D) ++ [32, 45, 32]) wx (prod_kid hxy hwy) HB0.out.1 (HBT.out.trans (hwx.below.mono HB0.out.1)) hwx.is (Nat.le_trans HW7.out.2.2.2 hwx.below.size) (by
           simp only [List.length_append]
           omega)
          have hlw2 := HLW.out
          rw [hP] at hlw2
          obtain ⟨k2, n2, d2, u2, oa2, b2, o2, cap2, kids2⟩ := y
          obtain ⟨L2, hL2⟩ : ∃ L2, kids2.length = L2 := ⟨_, rfl⟩
          simp only [xv_mk, hL2] at hcall
          obtain rfl : L' = 1 := by rw [← hL']; rfl
          have HLW := Lib.hid hlw2
          have HCALL := Lib.hid hcall
          have HPUT := Lib.hid hput
          have HCY := Lib.hid (And.intro hbl' hcy)
          have HL2 := Lib.hid hL2
          clear hcall hP hlw2 hi0 hput hln hk0 hbl' hcy hxy hwy hL2 hL'
          go_wp2_with fail
          ((with_reducible refine HPUT.out.mono ?_); rintro e w8 ⟨rfl, hw8⟩)
          have HW8 := Lib.hid hw8
          have hk8 := hw8.keep _ _ _ HW7.out.2.2.1 neExpr HK7.out
          have hc8 := HCALL.out w8 hw8
          have hb8 := Lib.hid (HBT.out.trans (hw8.below.mono HB0.out.1))
          have q0 : w8.cell? ⟨b', o', none⟩ = some (.int .i64 k2) := (hb8.out.cell HCY.out.1).trans (HCY.out.2 0 _ rfl)
          have q1 : w8.cell? ⟨b', o' + 1, none⟩ = some (.int .i64 n2) := (hb8.out.cell HCY.out.1).trans (HCY.out.2 1 _ rfl)
          have q2 : w8.cell? ⟨b', o' + 2, none⟩ = some (.int .i64 d2) := (hb8.out.cell HCY.out.1).trans (HCY.out.2 2 _ rfl)
          have q3 : w8.cell? ⟨b', o' + 3, none⟩ = some (.int .i64 u2) := (hb8.out.cell HCY.out.1).trans (HCY.out.2 3 _ rfl)
          have q4 : w8.cell? ⟨b', o' + 4, none⟩ = some (.slice oa2 L2 cap2) := by rw [← HL2.out]; exact (hb8.out.cell HCY.out.1).trans (HCY.out.2 4 _ rfl)
          obtain ⟨ch0, fch0, ch1, fch1, ch2, fch2, ch3, fch3, ch4, fch4, lch⟩ := Blk.five (hk8)
          have HC8 := Lib.hid hc8
          clear hw8 hk8 hc8
          go_wp2_with fail
          ((with_reducible refine HC8.out.mono ?_); rintro e w' ⟨rfl, hwb⟩)
          have HWB := Lib.hid (HW8.out.trans hwb)
          clear hwb
          have HW9 := Lib.hid (show Wb B b (l ++ D ++ [32, 45, 32] ++ prodX (sumT h) _) w w' ∧ Blk w' w.heap.size 27 #[.int .i64 2, .int .i64 n, .int .i64 d, .int .i64 u, .slice (some ⟨bb, o, none⟩) L cap] from ⟨HW7.out.1.trans HWB.out, HWB.out.keep _ _ _ HNE.out neExpr HX7.out⟩)
          go_wp2_with fail
          go_roundg (L - (i + 1))
          case measure => omega
          case rel => exact ⟨i + 1, D ++ _, by go_num, Lib.hid ⟨by have := HW9.out.1; first | exact this | simpa only [List.append_assoc] using this, HW9.out.2⟩, hi, Lib.hid (by have := HLW.out; first | exact this | simpa only [List.append_assoc] using this), Nat.le_refl _⟩
        · have gk : (k' == 3) = false := by simpa using hkt
          have hP : pieceX (prodX (sumT h)) 3 43 45 i (Ex.mk k' n' d' u' oa' b' o' cap' kids').c = [32, 43, 32] ++ prodX (sumT h) (Ex.mk k' n' d' u' oa' b' o' cap' kids').c := by
           rw [pieceX, if_neg hi0, Ex.c_mk, kind_mk, if_neg hkt]
          have hln := HLEN.out
          rw [← HLW.out, hP] at hln
          simp only [List.length_append] at hln
          have hput := writeString_any B b (l ++ D) [32, 43, 32] w7 HW7.out.1.is (by simp only [List.length_append]; omega) HW7.out.2.2.2
          have hcall := fun wx (hwx : Wb B b ((l ++ D) ++ [32, 43, 32]) w7 wx) => HP.out (Ex.mk k' n' d' u' oa' b' o' cap' kids') B b ((l ++ D) ++ [32, 43, 32]) wx (prod_kid HX.out.1 (HFI.out.2 (by rw [Ex.c_mk]; exact hkt))) HB0.out.1 (HBT.out.trans (hwx.below.mono HB0.out.1)) hwx.is (Nat.le_trans HW7.out.2.2.2 hwx.below.size) (by
           simp only [List.length_append]
           omega)
          have hlw2 := HLW.out
          rw [hP] at hlw2
          simp only [xv_mk, hL'] at hcall
          have HLW := Lib.hid hlw2
          have HCALL := Lib.hid hcall
          have HPUT := Lib.hid hput
          clear hcall hP hlw2 hi0 hput hln hL' hkt
          go_wp2_with fail
          ((with_reducible refine HPUT.out.mono ?_); rintro e w8 ⟨rfl, hw8⟩)
          have HW8 := Lib.hid hw8
          have hk8 := hw8.keep _ _ _ HW7.out.2.2.1 neExpr HK7.out
          have hc8 := HCALL.out w8 hw8
          obtain ⟨ch0, fch0, ch1, fch1, ch2, fch2, ch3, fch3, ch4, fch4, lch⟩ := Blk.five (hk8)
          have HC8 := Lib.hid hc8
          clear hw8 hk8 hc8
          go_wp2_with fail
          ((with_reducible refine HC8.out.mono ?_); rintro e w' ⟨rfl, hwb⟩)
          have HWB := Lib.hid (HW8.out.trans hwb)
          clear hwb
          have HW9 := Lib.hid (show Wb B b (l ++ D ++ [32, 43, 32] ++ prodX (sumT h) _) w w' ∧ Blk w' w.heap.size 27 #[.int .i64 2, .int .i64 n, .int .i64 d, .int .i64 u, .slice (some ⟨bb, o, none⟩) L cap] from ⟨HW7.out.1.trans HWB.out, HWB.out.keep _ _ _ HNE.out neExpr HX7.out⟩)
          go_wp2_with fail
          go_roundg (L - (i + 1))
          case measure => omega
          case rel => exact ⟨i + 1, D ++ _, by go_num, Lib.hid ⟨by have := HW9.out.1; first | exact this | simpa only [List.append_assoc] using this, HW9.out.2⟩, hi, Lib.hid (by have := HLW.out; first | exact this | simpa only [List.append_assoc] using this), Nat.le_refl _⟩
    · obtain rfl : i = L := by omega
      have gi : decide ((i : Int) < (i : Int)) = false := by simp
      have gin : decide (i < i) = false := by simp
      have hD : D = X := by
       have := hY.out
       rw [List.drop_eq_nil_of_le (by rw [List.length_map, HL.out]; exact Nat.le_refl _)] at this
       simpa [piecesX] using this
      subst hD
      have HG := Lib.hid hg.out.1
      clear h7 h8
      go_wp2_with fail
      go_end0
      exact ⟨rfl, HG.out⟩
 · have gkn : (k != 2) = true := by simpa using hk
   have hk4 : (Ex.mk k n d u oa bb o cap kids).c.kind ≠ 2 := by rw [Ex.c_mk]; exact hk
   have hT : sumT (h + 1) (Ex.mk k n d u oa bb o cap kids).c = prodX (sumT h) (Ex.mk k n d u oa bb o cap kids).c := sumT_other hk4
   rw [hT] at hlen ⊢
   have hw1 := Wb.stays hW hBw (below_box w (.cells #[.int .i64 k, .int .i64 n, .int .i64 d, .int .i64 u, .slice oa kids.length cap] 27))
   have hcall := HP.out (Ex.mk k n d u oa bb o cap kids) B b l (w.alloc (.cells #[.int .i64 k, .int .i64 n, .int .i64 d, .int .i64 u, .slice oa kids.length cap] 27)) ⟨hx, hwr, fun hh => absurd hh hk4⟩ hB0 (hb0.trans ((below_box _ _).mono hb0.size)) hw1.is (Nat.le_trans hBw (below_box _ _).size) hlen
   rw [xv_mk] at hcall ⊢
   have HCALL := Lib.hid hcall
   have HW1 := Lib.hid hw1
   clear hcall hw1 hT hlen hk4 hk hW hwr hx
   go_enter Tryz.func18, Tryz.ntmps18
   go_wp2_with fail
   ((with_reducible refine HCALL.out.mono ?_); rintro e w' ⟨rfl, hwb⟩)
   have HWB := Lib.hid hwb
   clear hwb
   go_wp2_with fail
   (try simp only [Exit.inBlock, Exit.then])
   refine bodyPost_ret (results_none rfl _ _ _) rfl ?_
   exact ⟨rfl, HW1.out.trans HWB.out⟩
end Go.Proofs.YtplnhjmomomphaaGreatDoor
