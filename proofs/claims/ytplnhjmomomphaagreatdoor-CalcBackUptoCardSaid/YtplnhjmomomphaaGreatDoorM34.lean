/- Of my texts: TextI, TextK, BackO. -/
import Derived.Test.YtplnhjmomomphaaGreatDoorM23
import Derived.Test.YtplnhjmomomphaaGreatDoorM25
import Derived.Test.YtplnhjmomomphaaGreatDoorM33
import Derived.Deep.RegionHeld3
namespace Go.Proofs.YtplnhjmomomphaaGreatDoor
set_option linter.unusedVariables false
set_option linter.unusedSimpArgs false
open Go.RowKit
def cpieces (S : Et → List UInt8) : Nat → List Et → List UInt8
 | _, [] => []
 | i, e :: r => (if i = 0 then S e else [44, 32] ++ S e) ++ cpieces S (i + 1) r
theorem commas_more (S : Et → List UInt8) : ∀ (l : List Et) (i : Nat), (l.map S).flatMap (fun y => [44, 32] ++ y) = cpieces S (i + 1) l
 | [], _ => rfl
 | e :: r, i => by
   rw [List.map_cons, List.flatMap_cons, commas_more S r (i + 1), cpieces, if_neg (Nat.succ_ne_zero i)]
theorem commas_pieces (S : Et → List UInt8) (l : List Et) : commas (l.map S) = cpieces S 0 l := by
 cases l with
 | nil => rfl
 | cons e r => rw [List.map_cons, commas_cons, cpieces, if_pos rfl, ← commas_more S r 0]
theorem cpieces_drop {S : Et → List UInt8} {l : List Et} {i : Nat} {x : Et} (hx : l.drop i = x :: l.drop (i + 1)) : cpieces S i (l.drop i) = (if i = 0 then S x else [44, 32] ++ S x) ++ cpieces S (i + 1) (l.drop (i + 1)) := by
 rw [hx, cpieces]
theorem operX_num (S : Et → List UInt8) (n d u : Int) (kids : List Et) : operX S (.mk 1 n d u kids) = numW n d u := by simp [operX]
theorem operX_par (S : Et → List UInt8) {k : Int} (n d u : Int) (kids : List Et) (hk : k = 2 ∨ k = 4) : operX S (.mk k n d u kids) = [40] ++ S (.mk k n d u kids) ++ [41] := by
 rw [operX, if_neg (by omega), if_neg (by omega), if_neg (by omega), if_neg (by omega)]
theorem operX_min (S : Et → List UInt8) (n d u : Int) (kids : List Et) : operX S (.mk 6 n d u kids) = [109, 105, 110, 40] ++ cpieces S 0 kids ++ [41] := by
 rw [← commas_pieces]; simp [operX]; rfl
theorem operX_max (S : Et → List UInt8) (n d u : Int) (kids : List Et) : operX S (.mk 7 n d u kids) = [109, 97, 120, 40] ++ cpieces S 0 kids ++ [41] := by
 rw [← commas_pieces]; simp [operX]; rfl
theorem operX_clamp (S : Et → List UInt8) (n d u : Int) (kids : List Et) : operX S (.mk 8 n d u kids) = [99, 108, 97, 109, 112, 40] ++ cpieces S 0 kids ++ [41] := by
 rw [← commas_pieces]; simp [operX]; rfl
theorem unitN_at {u : Int} (h1 : 1 ≤ u) (h7 : u ≤ 7) : ∃ j : Nat, u - 1 = (j : Int) ∧ j < 7 ∧ unitsV.toList[j]? = some (.string ⟨(unitN u).toArray⟩) ∧ (unitN u).length ≤ 3 := by
 have h : u = 1 ∨ u = 2 ∨ u = 3 ∨ u = 4 ∨ u = 5 ∨ u = 6 ∨ u = 7 := by omega
 rcases h with rfl | rfl | rfl | rfl | rfl | rfl | rfl
 · exact ⟨0, rfl, by omega, rfl, by decide⟩
 · exact ⟨1, rfl, by omega, rfl, by decide⟩
 · exact ⟨2, rfl, by omega, rfl, by decide⟩
 · exact ⟨3, rfl, by omega, rfl, by decide⟩
 · exact ⟨4, rfl, by omega, rfl, by decide⟩
 · exact ⟨5, rfl, by omega, rfl, by decide⟩
 · exact ⟨6, rfl, by omega, rfl, by decide⟩
set_option maxRecDepth 20000 in
set_option maxHeartbeats 8000000 in
theorem woper_num (w0 : World) (n d u : Int) (oa : Option Addr) (L cap : Nat) (t : List UInt8) (B b : Nat) (l : List UInt8) (w : World) (h64 : Is64 (n, d)) (ht : plainF (n, d) (d == 1) = some t) (hu0 : 0 ≤ u) (hu7 : u ≤ 7) (hD : Deb w0)
 (hB0 : w0.heap.size ≤ B) (hb0 : Below w0.heap.size w0 w) (hW : IsW B b l w) (hBw : B ≤ w.heap.size) (hlen : l.length + (t ++ unitN u).length ≤ 140737488355328) :
 Calls Tryz.prog 19 #[.pointer (some ⟨b, 0, none⟩), .agg #[.int .i64 1, .int .i64 n, .int .i64 d, .int .i64 u, .slice oa L cap]] w fun x w' => x = .returned (.tuple #[]) ∧ Wb B b (l ++ (t ++ unitN u)) w w' := by
 have hbw := hW.lt
 have hne : w.heap.size ≠ b := by omega
 have c1 := fun w hd => plain_any (n, d) (d == 1) w h64 hd
 rw [ht] at c1
 simp only [rv, outP] at c1
 rw [List.length_append] at hlen
 have hw1 := Wb.stays hW hBw (below_box w (.cells #[.int .i64 1, .int .i64 n, .int .i64 d, .int .i64 u, .slice oa L cap] 27))
 have hx1 := Blk.new w 27 #[.int .i64 1, .int .i64 n, .int .i64 d, .int .i64 u, .slice oa L cap]
 have hd1 := hD.below (hb0.trans ((below_box w (.cells #[.int .i64 1, .int .i64 n, .int .i64 d, .int .i64 u, .slice oa L cap] 27)).mono hb0.size))
 have hB1 : B ≤ (w.alloc (.cells #[.int .i64 1, .int .i64 n, .int .i64 d, .int .i64 u, .slice oa L cap] 27)).heap.size := Nat.le_trans hBw (below_box _ _).size
 have HC := Lib.hid (c1 _ hd1)
 have HW1 := Lib.hid (And.intro hw1 (And.intro hx1 hB1))
 have HNE := Lib.hid (And.intro hne hlen)
 clear c1 ht hlen hw1 hx1 hd1 hne hbw hB1
 go_enter Tryz.func19, Tryz.ntmps19
 go_wp2_with fail
 ((with_reducible refine (HC.out).mono ?_); rintro e w' ⟨rfl, hbw⟩)
 obtain ⟨m1, rfl⟩ := grow_mk hbw
 clear hbw
 have HW2 := Lib.hid (HW1.out.1.trans (Wb.stays HW1.out.1.is HW1.out.2.2 (grow_below m1)))
 have HX2 := Lib.hid (HW1.out.2.1.grow m1)
 have HB2 := Lib.hid (Nat.le_trans HW1.out.2.2 (grow_size m1))
 generalize grow _ m1 = w2 at *
 have HPUT := Lib.hid (writeString_any B b l t w2 HW2.out.is (by have := HNE.out.2; omega) HB2.out)
 go_wp2_with fail
 ((with_reducible refine HPUT.out.mono ?_); rintro e w3 ⟨rfl, hw3⟩)
 have HW3 := Lib.hid (HW2.out.trans hw3)
 have HX3 := Lib.hid (hw3.keep _ _ _ HNE.out.1 neExpr HX2.out)
 have HB3 := Lib.hid (Nat.le_trans HB2.out hw3.below.size)
 have hx3 := HX3.out
 obtain ⟨gE, hgE⟩ : ∃ gE, w.heap.size = gE := ⟨_, rfl⟩
 rw [hgE] at hx3
 simp only [hgE]
 obtain ⟨cb0, fcb0, cb1, fcb1, cb2, fcb2, cb3, fcb3, cb4, fcb4, lcb⟩ := Blk.five (hx3)
 clear hw3 hx3
 by_cases hu : u = 0
 · subst hu
   have hU : unitN 0 = [] := rfl
   have HF := Lib.hid (show Wb B b (l ++ (t ++ unitN 0)) w w3 by rw [hU, List.append_nil]; exact HW3.out)
   clear hU hu0 hu7
   go_wp2_with fail
   (try simp only [Exit.inBlock, Exit.then])
   refine bodyPost_ret (results_none rfl _ _ _) rfl ?_
   exact ⟨rfl, HF.out⟩
 · have gu : (u != 0) = true := by simpa using hu
   have gu2 : (u == 0) = false := by simpa using hu
   obtain ⟨j, hj, hj7, hat, hl3⟩ := unitN_at (by omega) hu7
   have HP3 := Lib.hid (show ∀ wx, Below w3.heap.size w3 wx → Calls Tryz.prog 17 #[.pointer (some ⟨b, 0, none⟩), .string ⟨(unitN u).toArray⟩] wx fun e w' => e = .returned (.tuple #[.int .i64 (unitN u).length, .nilIface]) ∧ Wb B b (l ++ (t ++ unitN u)) w w' ∧ w'.cell? ⟨gE, 3, none⟩ = some (.int .i64 u) from fun wx hx => by
    have hwx := Wb.stays HW3.out.is HB3.out hx
    refine (writeString_any B b (l ++ t) (unitN u) wx hwx.is (by have := HNE.out.2; rw [List.length_append]; omega) (Nat.le_trans HB3.out hx.size)).mono ?_
    rintro e w' ⟨rfl, hw'⟩
    have hx' := hw'.keep _ _ _ HNE.out.1 neExpr (HX3.out.below hx HX3.out.lt)
    rw [hgE] at hx'
    exact ⟨rfl, by have := HW3.out.trans (hwx.trans hw'); rwa [List.append_assoc] at this, hx'.cell 3⟩)
   have hat2 : unitsV[j]? = some (.string ⟨(unitN u).toArray⟩) := by rw [← Array.getElem?_toList]; exact hat
   have HU := Lib.hid (And.intro hj (And.intro hat2 hl3))
   clear hu hat hl3 hat2 hu0 hu7 hj cb0 cb1 cb2 cb4 fcb0 fcb1 fcb2 fcb3 fcb4
   have HUN := Lib.hid (show ∀ wx, Below w3.heap.size w3 wx → Calls Tryz.prog 40 #[] wx fun e w' => ∃ g : Nat, e = .returned (.slice (some ⟨g, 0, none⟩) 7 7) ∧ Below w3.heap.size w3 w' ∧ w'.cell? ⟨g, j, none⟩ = some (.string ⟨(unitN u).toArray⟩) ∧ w'.cell? ⟨gE, 3, none⟩ = some (.int .i64 u) from fun wx hx => by
    refine (unitNames_any wx).mono ?_
    rintro e w' ⟨rfl, rfl⟩
    have hxx := HX3.out.below hx HX3.out.lt
    rw [hgE] at hxx
    have hb9 : Below w3.heap.size w3 (wx.alloc (.cells unitsV 9)) := hx.trans ((below_box _ _).mono hx.size)
    refine ⟨_, rfl, hb9, ?_, (hxx.old _).cell 3⟩
    rw [(Blk.new wx 9 unitsV).cell j]
    exact HU.out.2.1)
   have hjw : IntKind.i64.wrap (u - 1) = (j : Int) := by rw [HU.out.1, IntKind.wrap_i64]; omega
   have ij1 : (0 : Int) ≤ (j : Int) := by omega
   have ij2 : (j : Int) < 7 := by omega
   have ij3 : (j : Int) < ((7 : Nat) : Int) := by omega
   go_wp2_with fail
   clear gu gu2
   refine wp_region_held_drew (S := (fun wx => wx.cell? ⟨gE, 3, none⟩ = some (.int .i64 u))) (by kernel_rfl) (by (try dsimp only); go_keep) (fun hHeld => ?_)
   refine wpAnyH_take (i := 0) (v := ?hvv0_1) rfl (by kernel_rfl) (by kernel_rfl) (by kernel_rfl) (fun _ _ _ h => h) (Or.inl ⟨by rfl, ?hhy0_1⟩) (by assumption) ?_
   case hhy0_1 => (intro w hSw; (try dsimp only at hSw); go_simp; try with_reducible rfl)
   change wpAnyH _ _ _ _ _ _ _ (Act.put _ (some 40) _) _
   try simp only [Act.put, List.setIfInBounds_toArray, List.set_cons_zero, List.set_cons_succ]
   refine wpAnyH_take (i := 2) (v := ?hvv2_2) rfl (by kernel_rfl) (by kernel_rfl) (by kernel_rfl) (fun _ _ _ h => h) (Or.inl ⟨by rfl, ?hhy2_2⟩) (by assumption) ?_
   case hhy2_2 => (intro w hSw; (try dsimp only at hSw); go_simp; try with_reducible rfl)
   change wpAnyH _ _ _ _ _ _ _ (Act.put _ (some 42) _) _
   try simp only [Act.put, List.setIfInBounds_toArray, List.set_cons_zero, List.set_cons_succ]
   refine wpAnyH_take (i := 3) (v := ?hvv3_3) rfl (by kernel_rfl) (by kernel_rfl) (by kernel_rfl) (fun _ _ _ h => h) (Or.inl ⟨by rfl, ?hhy3_3⟩) (by assumption) ?_
   case hhy3_3 => (intro w hSw; (try dsimp only at hSw); go_simp; try with_reducible rfl)
   change wpAnyH _ _ _ _ _ _ _ (Act.put _ (some 43) _) _
   try simp only [Act.put, List.setIfInBounds_toArray, List.set_cons_zero, List.set_cons_succ]
   refine wpAnyH_take (i := 4) (v := ?hvv4_4) rfl (by kernel_rfl) (by kernel_rfl) (by kernel_rfl) (fun _ _ _ h => h) (Or.inl ⟨by rfl, ?hhy4_4⟩) (by assumption) ?_
   case hhy4_4 => (intro w hSw; (try dsimp only at hSw); go_simp; try with_reducible rfl)
   change wpAnyH _ _ _ _ _ _ _ (Act.put _ (some 44) _) _
   try simp only [Act.put, List.setIfInBounds_toArray, List.set_cons_zero, List.set_cons_succ]
   refine wpAnyH_ready (rs := [1]) (by kernel_rfl) (by simp) ?_
   refine AllReadyH.cons rfl (fun K hK => ?_) AllReadyH.nil
   go_simp
   ((with_reducible refine (HUN.out _ (by repeat (first | with_reducible assumption | with_reducible exact Below.refl _ _ | with_reducible refine Below.drew ?_ | with_reducible refine below_alloc_self ?_ _))).mono ?_); rintro e w4 ⟨g4, rfl, hb4, hc4, hd4⟩)
   go_wp2_with fail
   refine hK.out _ _ hd4 (fun hHeld => ?_)
   clear hK K
   refine wpAnyH_take (i := 5) (v := ?hvv5_5) rfl (by kernel_rfl) (by kernel_rfl) (by kernel_rfl) (fun _ _ _ h => h) (Or.inl ⟨by rfl, ?hhy5_5⟩) (by assumption) ?_
   case hhy5_5 => (intro w hSw; (try dsimp only at hSw); go_simp; try with_reducible rfl)
   change wpAnyH _ _ _ _ _ _ _ (Act.put _ (some 45) _) _
   try simp only [Act.put, List.setIfInBounds_toArray, List.set_cons_zero, List.set_cons_succ]
   refine wpAnyH_ready (rs := [6]) (by kernel_rfl) (by simp) ?_
   refine AllReadyH.cons rfl (fun K hK => ?_) AllReadyH.nil
   go_simp
   refine hK.out _ _ hd4 (fun hHeld => ?_)
   clear hK K
   refine wpAnyH_ready (rs := [7]) (by kernel_rfl) (by simp) ?_
   refine AllReadyH.cons rfl (fun K hK => ?_) AllReadyH.nil
   go_simp
   ((with_reducible refine (HP3.out _ hb4).mono ?_); rintro e w5 ⟨rfl, hw5, hd5⟩)
   go_wp2_with fail
   refine hK.out _ _ hd5 (fun hHeld => ?_)
   clear hK K
   refine wpAnyH_done (by kernel_rfl) ?_ _
   have HF := Lib.hid hw5
   go_wp2_with fail
   (try simp only [Exit.inBlock, Exit.then])
   refine bodyPost_ret (results_none rfl _ _ _) rfl ?_
   exact ⟨rfl, HF.out⟩
set_option maxRecDepth 20000 in
set_option maxHeartbeats 8000000 in
theorem woper_step (w0 : World) (h : Nat) (hD : Deb w0) (HS : WSumAt w0 h) : WOperAt w0 h := by
 intro e B b l w hC hB0 hb0 hW hBw hlen
 obtain ⟨hx, hwr, h24⟩ := hC
 obtain ⟨k, n, d, u, oa, bb, o, cap, kids⟩ := e
 have hbw := hW.lt
 have hne : w.heap.size ≠ b := by omega
 have hkinds := hwr
 rw [Ex.c_mk] at hkinds
 have hkinds := hkinds.kinds
 rcases hkinds with hk | hk | hk | hk | hk | hk
 · subst hk
   have hwk : Wk (h + 1) (Ex.mk 1 n d u oa bb o cap kids).c := ⟨hwr.1, hwr.2.1⟩
   rw [Ex.c_mk] at hwk
   obtain ⟨_, hu0, hu7, t, ht⟩ := hwk.num
   have hT : operX (sumT h) (Ex.mk 1 n d u oa bb o cap kids).c = t ++ unitN u := by
    rw [Ex.c_mk, operX_num, numW, ht]
    rfl
   rw [hT] at hlen ⊢
   exact woper_num w0 n d u oa kids.length cap t B b l w hx.2.1 ht hu0 hu7 hD hB0 hb0 hW hBw hlen
 · subst hk
   have hT : operX (sumT h) (Ex.mk 2 n d u oa bb o cap kids).c = [40] ++ sumT h (Ex.mk 2 n d u oa bb o cap kids).c ++ [41] := by
    rw [Ex.c_mk, operX_par _ _ _ _ _ (by omega)]
   rw [hT] at hlen ⊢
   clear hT
   simp only [List.length_append, List.length_cons, List.length_nil] at hlen
   obtain ⟨hx2, hw2⟩ := h24 (by rw [Ex.c_mk, kind_mk]; omega)
   have hcall := fun wx (hwx : Wb B b (l ++ [40]) w wx) => HS (Ex.mk 2 n d u oa bb o cap kids) B b (l ++ [40]) wx ⟨hx2, hw2⟩ hB0 (hb0.trans (hwx.below.mono hB0)) hwx.is (Nat.le_trans hBw hwx.below.size) (by simp only [List.length_append, List.length_cons, List.length_nil]; omega)
   rw [xv_mk] at hcall ⊢
   obtain ⟨X, hX⟩ : ∃ X, sumT h (Ex.mk 2 n d u oa bb o cap kids).c = X := ⟨_, rfl⟩
   rw [hX] at hcall hlen ⊢
   obtain ⟨L, hL⟩ : ∃ L, kids.length = L := ⟨_, rfl⟩
   rw [hL] at hcall ⊢
   have hw1 := Wb.stays hW hBw (below_box w (.cells #[.int .i64 2, .int .i64 n, .int .i64 d, .int .i64 u, .slice oa L cap] 27))
   have hx1 := Blk.new w 27 #[.int .i64 2, .int .i64 n, .int .i64 d, .int .i64 u, .slice oa L cap]
   have hB1 : B ≤ (w.alloc (.cells #[.int .i64 2, .int .i64 n, .int .i64 d, .int .i64 u, .slice oa L cap] 27)).heap.size := Nat.le_trans hBw (below_box _ _).size
   have HCALL := Lib.hid hcall
   have HW1 := Lib.hid (And.intro hw1 (And.intro hx1 hB1))
   have HNE := Lib.hid (And.intro hne hlen)
   have hput := writeString_any B b l [40] _ hw1.is (by simp only [List.length_cons, List.length_nil]; omega) hB1
   have HPUT := Lib.hid hput
   clear hput hcall hw1 hx1 hB1 hne hlen hX hL hx2 hw2 h24 hx hwr hW hbw hB0 hb0
   go_enter Tryz.func19, Tryz.ntmps19
   go_wp2_with fail
   ((with_reducible refine HPUT.out.mono ?_); rintro e w2 ⟨rfl, hw2⟩)
   have HW2 := Lib.hid (HW1.out.1.trans hw2)
   have hx2 := hw2.keep _ _ _ HNE.out.1 neExpr HW1.out.2.1
   have HB2 := Lib.hid (Nat.le_trans HW1.out.2.2 hw2.below.size)
   have hc2 := HCALL.out w2 HW2.out
   have HC2 := Lib.hid hc2
   obtain ⟨gE, hgE⟩ : ∃ gE, w.heap.size = gE := ⟨_, rfl⟩
   rw [hgE] at hx2
   simp only [hgE]
   obtain ⟨cb0, fcb0, cb1, fcb1, cb2, fcb2, cb3, fcb3, cb4, fcb4, lcb⟩ := Blk.five (hx2)
   clear hw2 hx2 hc2 hgE
   go_wp2_with fail
   ((with_reducible refine HC2.out.mono ?_); rintro e w3 ⟨rfl, hw3⟩)
   have HW3 := Lib.hid (HW2.out.trans hw3)
   have HP3 := Lib.hid (writeString_any B b ((l ++ [40]) ++ X) [41] w3 hw3.is (by have := HNE.out.2; simp only [List.length_append, List.length_cons, List.length_nil]; omega) (Nat.le_trans HB2.out hw3.below.size))
   clear hw3
   go_wp2_with fail
   ((with_reducible refine HP3.out.mono ?_); rintro e w4 ⟨rfl, hw4⟩)
   have HF := Lib.hid (show Wb B b (l ++ ([40] ++ X ++ [41])) w w4 by have := HW3.out.trans hw4; simpa only [List.append_assoc] using this)
   clear hw4
   go_wp2_with fail
   (try simp only [Exit.inBlock, Exit.then])
   refine bodyPost_ret (results_none rfl _ _ _) rfl ?_
   exact ⟨rfl, HF.out⟩
 · subst hk
   have hT : operX (sumT h) (Ex.mk 4 n d u oa bb o cap kids).c = [40] ++ sumT h (Ex.mk 4 n d u oa bb o cap kids).c ++ [41] := by
    rw [Ex.c_mk, operX_par _ _ _ _ _ (by omega)]
   rw [hT] at hlen ⊢
   clear hT
   simp only [List.length_append, List.length_cons, List.length_nil] at hlen
   obtain ⟨hx2, hw2⟩ := h24 (by rw [Ex.c_mk, kind_mk]; omega)
   have hcall := fun wx (hwx : Wb B b (l ++ [40]) w wx) => HS (Ex.mk 4 n d u oa bb o cap kids) B b (l ++ [40]) wx ⟨hx2, hw2⟩ hB0 (hb0.trans (hwx.below.mono hB0)) hwx.is (Nat.le_trans hBw hwx.below.size) (by simp only [List.length_append, List.length_cons, List.length_nil]; omega)
   rw [xv_mk] at hcall ⊢
   obtain ⟨X, hX⟩ : ∃ X, sumT h (Ex.mk 4 n d u oa bb o cap kids).c = X := ⟨_, rfl⟩
   rw [hX] at hcall hlen ⊢
   obtain ⟨L, hL⟩ : ∃ L, kids.length = L := ⟨_, rfl⟩
   rw [hL] at hcall ⊢
   have hw1 := Wb.stays hW hBw (below_box w (.cells #[.int .i64 4, .int .i64 n, .int .i64 d, .int .i64 u, .slice oa L cap] 27))
   have hx1 := Blk.new w 27 #[.int .i64 4, .int .i64 n, .int .i64 d, .int .i64 u, .slice oa L cap]
   have hB1 : B ≤ (w.alloc (.cells #[.int .i64 4, .int .i64 n, .int .i64 d, .int .i64 u, .slice oa L cap] 27)).heap.size := Nat.le_trans hBw (below_box _ _).size
   have HCALL := Lib.hid hcall
   have HW1 := Lib.hid (And.intro hw1 (And.intro hx1 hB1))
   have HNE := Lib.hid (And.intro hne hlen)
   have hput := writeString_any B b l [40] _ hw1.is (by simp only [List.length_cons, List.length_nil]; omega) hB1
   have HPUT := Lib.hid hput
   clear hput hcall hw1 hx1 hB1 hne hlen hX hL hx2 hw2 h24 hx hwr hW hbw hB0 hb0
   go_enter Tryz.func19, Tryz.ntmps19
   go_wp2_with fail
   ((with_reducible refine HPUT.out.mono ?_); rintro e w2 ⟨rfl, hw2⟩)
   have HW2 := Lib.hid (HW1.out.1.trans hw2)
   have hx2 := hw2.keep _ _ _ HNE.out.1 neExpr HW1.out.2.1
   have HB2 := Lib.hid (Nat.le_trans HW1.out.2.2 hw2.below.size)
   have hc2 := HCALL.out w2 HW2.out
   have HC2 := Lib.hid hc2
   obtain ⟨gE, hgE⟩ : ∃ gE, w.heap.size = gE := ⟨_, rfl⟩
   rw [hgE] at hx2
   simp only [hgE]
   obtain ⟨cb0, fcb0, cb1, fcb1, cb2, fcb2, cb3, fcb3, cb4, fcb4, lcb⟩ := Blk.five (hx2)
   clear hw2 hx2 hc2 hgE
   go_wp2_with fail
   ((with_reducible refine HC2.out.mono ?_); rintro e w3 ⟨rfl, hw3⟩)
   have HW3 := Lib.hid (HW2.out.trans hw3)
   have HP3 := Lib.hid (writeString_any B b ((l ++ [40]) ++ X) [41] w3 hw3.is (by have := HNE.out.2; simp only [List.length_append, List.length_cons, List.length_nil]; omega) (Nat.le_trans HB2.out hw3.below.size))
   clear hw3
   go_wp2_with fail
   ((with_reducible refine HP3.out.mono ?_); rintro e w4 ⟨rfl, hw4⟩)
   have HF := Lib.hid (show Wb B b (l ++ ([40] ++ X ++ [41])) w w4 by have := HW3.out.trans hw4; simpa only [List.append_assoc] using this)
   clear hw4
   go_wp2_with fail
   (try simp only [Exit.inBlock, Exit.then])
   refine bodyPost_ret (results_none rfl _ _ _) rfl ?_
   exact ⟨rfl, HF.out⟩
 · subst hk
   have hT : operX (sumT h) (Ex.mk 6 n d u oa bb o cap kids).c = [109, 105, 110, 40] ++ cpieces (sumT h) 0 (kids.map Ex.c) ++ [41] := by
    rw [Ex.c_mk, operX_min]
   rw [hT] at hlen ⊢
   clear hT h24
   have hwk : Wk (h + 1) (Ex.mk 6 n d u oa bb o cap kids).c := ⟨hwr.1, hwr.2.1⟩
   rw [Ex.c_mk] at hwk
   obtain ⟨h1, h2, h3, h4, h5, h6, h7, h8⟩ := hx
   have hsm : kids.length ≤ 9223372036854775807 := Nat.le_trans (Nat.le_trans h4 h5) (by decide)
   obtain ⟨X, hX⟩ : ∃ X, cpieces (sumT h) 0 (kids.map Ex.c) = X := ⟨_, rfl⟩
   rw [hX] at hlen ⊢
   simp only [List.length_append, List.length_cons, List.length_nil] at hlen
   rw [xv_mk]
   obtain ⟨L, hL⟩ : ∃ L, kids.length = L := ⟨_, rfl⟩
   rw [hL] at hsm h4 h7 ⊢
   have HL := Lib.hid hL
   have HWK := Lib.hid hwk
   have HP := Lib.hid HS
   have HX0 := Lib.hid (show [] ++ cpieces (sumT h) 0 ((kids.map Ex.c).drop 0) = X from hX)
   have HB0 := Lib.hid (And.intro hB0 (And.intro hb0 hBw))
   have hw1 := Wb.stays hW hBw (below_box w (.cells #[.int .i64 6, .int .i64 n, .int .i64 d, .int .i64 u, .slice oa L cap] 27))
   have hx1 := Blk.new w 27 #[.int .i64 6, .int .i64 n, .int .i64 d, .int .i64 u, .slice oa L cap]
   have hB1 : B ≤ (w.alloc (.cells #[.int .i64 6, .int .i64 n, .int .i64 d, .int .i64 u, .slice oa L cap] 27)).heap.size := Nat.le_trans hBw (below_box _ _).size
   have HW1 := Lib.hid (And.intro hw1 (And.intro hx1 hB1))
   have HNE := Lib.hid (And.intro hne hlen)
   have hput := writeString_any B b l [109, 105, 110, 40] _ hw1.is (by simp only [List.length_cons, List.length_nil]; omega) hB1
   have HPUT := Lib.hid hput
   clear hput hw1 hx1 hB1 hne hlen hX hL hwr hwk hW hbw hB0 hb0 hBw h1 h2 h3 h5 h6 HS
   go_enter Tryz.func19, Tryz.ntmps19
   go_wp2_with fail
   ((with_reducible refine HPUT.out.mono ?_); rintro e w2 ⟨rfl, hw2⟩)
   have HW2 := Lib.hid (HW1.out.1.trans hw2)
   have hx2 := hw2.keep _ _ _ HNE.out.1 neExpr HW1.out.2.1
   have HX2 := Lib.hid hx2
   obtain ⟨cb0, fcb0, cb1, fcb1, cb2, fcb2, cb3, fcb3, cb4, fcb4, lcb⟩ := Blk.five (hx2)
   clear hw2 hx2
   have HG2 := Lib.hid (show Wb B b (l ++ [109, 105, 110, 40] ++ []) w w2 ∧ Blk w2 w.heap.size 27 #[.int .i64 6, .int .i64 n, .int .i64 d, .int .i64 u, .slice oa L cap] from ⟨by rw [List.append_nil]; exact HW2.out, HX2.out⟩)
   go_wp2_with fail
   go_loopg [63] L (fun kk s63 wr => ∃ (i : Nat) (D : List UInt8), s63 = .int .i64 i ∧ Hid (Wb B b (l ++ [109, 105, 110, 40] ++ D) w wr ∧ Blk wr w.heap.size 27 #[.int .i64 6, .int .i64 n, .int .i64 d, .int .i64 u, .slice oa L cap]) ∧ i ≤ L ∧ Hid (D ++ cpieces (sumT h) i ((kids.map Ex.c).drop i) = X) ∧ L - i ≤ kk)
   case atStart => exact ⟨0, [], rfl, HG2, Nat.zero_le _, HX0, by omega⟩
   case round =>
    obtain ⟨i, D, rfl, hg, hle, hY, hk2⟩ := hrel
    clear cb0 cb1 cb2 cb3 cb4 fcb0 fcb1 fcb2 fcb3 fcb4 lcb
    have hbel := Lib.hid (Below.trans HB0.out.2.1 (hg.out.1.below.mono HB0.out.1))
    have hbr : B ≤ wr.heap.size := Nat.le_trans HB0.out.2.2 hg.out.1.below.size
    by_cases hi : i < L
    · have gi : decide ((i : Int) < (L : Int)) = true := by simpa using hi
      have gin : decide (i < L) = true := by simpa using hi
      have hil : i < kids.length := by rw [HL.out]; exact hi
      have hr : kids[i]? = some kids[i] := List.getElem?_eq_getElem hil
      have hx := h8 i _ hr
      have hdr : (kids.map Ex.c).drop i = kids[i].c :: (kids.map Ex.c).drop (i + 1) := by
       rw [← List.map_drop, List.drop_eq_getElem_cons hil, List.map_cons, List.map_drop]
      have hci : (kids.map Ex.c)[i]? = some kids[i].c := by rw [List.getElem?_map, hr]; rfl
      have hsame := HWK.out.same (by decide) hci (fun _ e => by revert e; decide) (fun _ e => by revert e; decide)
      obtain ⟨rfl, hbl⟩ := h7 (by omega)
      generalize kids[i] = x at *
      have hlaw := hY.out
      rw [cpieces_drop hdr] at hlaw
      clear hr hil hci hdr h7 h8 hY
      have hall := fun (l2 : List UInt8) wx (hwx : Wb B b l2 w wx) hl => HP.out x B b l2 wx ⟨hx.2, hsame⟩ HB0.out.1 (HB0.out.2.1.trans (hwx.below.mono HB0.out.1)) hwx.is (Nat.le_trans HB0.out.2.2 hwx.below.size) hl
      obtain ⟨E, hE⟩ : ∃ E, sumT h x.c = E := ⟨_, rfl⟩
      rw [hE] at hall hlaw
      obtain ⟨k', n', d', u', oa', b', o', cap', kids'⟩ := x
      obtain ⟨L', hL'⟩ : ∃ L', kids'.length = L' := ⟨_, rfl⟩
      have f0 : wr.cell? ⟨bb, o + i * 5, none⟩ = some (.int .i64 k') := (hbel.out.cell hbl).trans (hx.1 0 _ rfl)
      have f1 : wr.cell? ⟨bb, o + i * 5 + 1, none⟩ = some (.int .i64 n') := (hbel.out.cell hbl).trans (hx.1 1 _ rfl)
      have f2 : wr.cell? ⟨bb, o + i * 5 + 2, none⟩ = some (.int .i64 d') := (hbel.out.cell hbl).trans (hx.1 2 _ rfl)
      have f3 : wr.cell? ⟨bb, o + i * 5 + 3, none⟩ = some (.int .i64 u') := (hbel.out.cell hbl).trans (hx.1 3 _ rfl)
      have f4 : wr.cell? ⟨bb, o + i * 5 + 4, none⟩ = some (.slice oa' L' cap') := by rw [← hL']; exact (hbel.out.cell hbl).trans (hx.1 4 _ rfl)
      rw [xv_mk, hL'] at hall
      have HALL := Lib.hid hall
      have HLW := Lib.hid hlaw
      clear hx hsame hall hlaw hE hL'
      go_upto_region 20 with fail
      have hw7 := hg.out.1.trans (Wb.stays hg.out.1.is hbr (below_box wr (.cells #[.int .i64 k', .int .i64 n', .int .i64 d', .int .i64 u', .slice oa' L' cap'] 27)))
      have hk7 := Blk.new wr 27 #[.int .i64 k', .int .i64 n', .int .i64 d', .int .i64 u', .slice oa' L' cap']
      have hn7 : wr.heap.size ≠ b := by have := hg.out.1.is.lt; omega
      have HX7 := Lib.hid (hg.out.2.old (.cells #[.int .i64 k', .int .i64 n', .int .i64 d', .int .i64 u', .slice oa' L' cap'] 27))
      have hb7 : B ≤ (wr.alloc (.cells #[.int .i64 k', .int .i64 n', .int .i64 d', .int .i64 u', .slice oa' L' cap'] 27)).heap.size := Nat.le_trans hbr (below_box _ _).size
      obtain ⟨g7, hg7⟩ : ∃ g7, wr.heap.size = g7 := ⟨_, rfl⟩
      rw [hg7] at hk7 hn7
      simp only [hg7]
      clear hg7 f0 f1 f2 f3 f4 hbr
      generalize wr.alloc _ = w7 at *
      have HW7 := Lib.hid (And.intro hw7 (And.intro hk7 (And.intro hn7 hb7)))
      obtain ⟨cg0, fcg0, cg1, fcg1, cg2, fcg2, cg3, fcg3, cg4, fcg4, lcg⟩ := Blk.five (hk7)
      clear hw7 hk7 hn7 hb7
      by_cases hi0 : i = 0
      · have ge : decide ((i : Int) > (0 : Int)) = false := by simp; omega
        have ge2 : decide ((0 : Int) < (i : Int)) = false := by simp; omega
        have ge3 : decide (0 < i) = false := by simp; omega
        have hlw2 := HLW.out
        rw [if_pos hi0] at hlw2
        have hcall := HALL.out _ w7 HW7.out.1 (by
         have := HNE.out.2
         rw [← hlw2] at this
         simp only [List.length_append, List.length_cons, List.length_nil] at this ⊢
         omega)
        have HLW := Lib.hid hlw2
        have HCALL := Lib.hid hcall
        clear hcall hlw2 hi0
        go_wp2_with fail
        ((with_reducible refine HCALL.out.mono ?_); rintro e w' ⟨rfl, hwb⟩)
        have HW9 := Lib.hid (show Wb B b (l ++ [109, 105, 110, 40] ++ D ++ E) w w' ∧ Blk w' w.heap.size 27 #[.int .i64 6, .int .i64 n, .int .i64 d, .int .i64 u, .slice (some ⟨bb, o, none⟩) L cap] from ⟨HW7.out.1.trans hwb, hwb.keep _ _ _ HNE.out.1 neExpr HX7.out⟩)
        clear hwb
        go_wp2_with fail
        go_roundg (L - (i + 1))
        case measure => omega
        case rel => exact ⟨i + 1, D ++ E, by go_num, Lib.hid ⟨by have := HW9.out.1; first | exact this | simpa only [List.append_assoc] using this, HW9.out.2⟩, hi, Lib.hid (by have := HLW.out; first | exact this | simpa only [List.append_assoc] using this), Nat.le_refl _⟩
      · have ge : decide ((i : Int) > (0 : Int)) = true := by simp; omega
        have ge2 : decide ((0 : Int) < (i : Int)) = true := by simp; omega
        have ge3 : decide (0 < i) = true := by simp; omega
        have hlw2 := HLW.out
        rw [if_neg hi0] at hlw2
        have hln := HNE.out.2
        rw [← hlw2] at hln
        simp only [List.length_append, List.length_cons, List.length_nil] at hln
        have hput := writeString_any B b (l ++ [109, 105, 110, 40] ++ D) [44, 32] w7 HW7.out.1.is (by simp only [List.length_append, List.length_cons, List.length_nil]; omega) HW7.out.2.2.2
        have hcall := fun wx (hwx : Wb B b (l ++ [109, 105, 110, 40] ++ D ++ [44, 32]) w wx) => HALL.out _ wx hwx (by simp only [List.length_append, List.length_cons, List.length_nil]; omega)
        have HLW := Lib.hid hlw2
        have HCALL := Lib.hid hcall
        have HPUT := Lib.hid hput
        clear hcall hlw2 hi0 hput hln
        go_wp2_with fail
        ((with_reducible refine HPUT.out.mono ?_); rintro e w8 ⟨rfl, hw8⟩)
        have HW8 := Lib.hid (HW7.out.1.trans hw8)
        have hk8 := hw8.keep _ _ _ HW7.out.2.2.1 neExpr HW7.out.2.1
        have HX8 := Lib.hid (hw8.keep _ _ _ HNE.out.1 neExpr HX7.out)
        have hc8 := HCALL.out w8 HW8.out
        obtain ⟨ch0, fch0, ch1, fch1, ch2, fch2, ch3, fch3, ch4, fch4, lch⟩ := Blk.five (hk8)
        have HC8 := Lib.hid hc8
        clear hw8 hk8 hc8
        go_wp2_with fail
        ((with_reducible refine HC8.out.mono ?_); rintro e w' ⟨rfl, hwb⟩)
        have HW9 := Lib.hid (show Wb B b (l ++ [109, 105, 110, 40] ++ D ++ [44, 32] ++ E) w w' ∧ Blk w' w.heap.size 27 #[.int .i64 6, .int .i64 n, .int .i64 d, .int .i64 u, .slice (some ⟨bb, o, none⟩) L cap] from ⟨HW8.out.trans hwb, hwb.keep _ _ _ HNE.out.1 neExpr HX8.out⟩)
        clear hwb
        go_wp2_with fail
        go_roundg (L - (i + 1))
        case measure => omega
        case rel => exact ⟨i + 1, D ++ ([44, 32] ++ E), by go_num, Lib.hid ⟨by have := HW9.out.1; first | exact this | simpa only [List.append_assoc] using this, HW9.out.2⟩, hi, Lib.hid (by have := HLW.out; first | exact this | simpa only [List.append_assoc] using this), Nat.le_refl _⟩
    · obtain rfl : i = L := by omega
      have gi : decide ((i : Int) < (i : Int)) = false := by simp
      have gin : decide (i < i) = false := by simp
      have hD2 : D = X := by
       have := hY.out
       rw [List.drop_eq_nil_of_le (by rw [List.length_map, HL.out]; exact Nat.le_refl _)] at this
       simpa [cpieces] using this
      subst hD2
      have HPE := Lib.hid (writeString_any B b (l ++ [109, 105, 110, 40] ++ D) [41] wr hg.out.1.is (by have := HNE.out.2; simp only [List.length_append, List.length_cons, List.length_nil]; omega) hbr)
      clear h7 h8 hbr
      go_wp2_with fail
      ((with_reducible refine HPE.out.mono ?_); rintro e w4 ⟨rfl, hw4⟩)
      have HF := Lib.hid (show Wb B b (l ++ ([109, 105, 110, 40] ++ D ++ [41])) w w4 by have := hg.out.1.trans hw4; simpa only [List.append_assoc, List.cons_append, List.nil_append] using this)
      clear hw4
      go_wp2_with fail
      go_end0
      exact ⟨rfl, HF.out⟩
 · subst hk
   have hT : operX (sumT h) (Ex.mk 7 n d u oa bb o cap kids).c = [109, 97, 120, 40] ++ cpieces (sumT h) 0 (kids.map Ex.c) ++ [41] := by
    rw [Ex.c_mk, operX_max]
   rw [hT] at hlen ⊢
   clear hT h24
   have hwk : Wk (h + 1) (Ex.mk 7 n d u oa bb o cap kids).c := ⟨hwr.1, hwr.2.1⟩
   rw [Ex.c_mk] at hwk
   obtain ⟨h1, h2, h3, h4, h5, h6, h7, h8⟩ := hx
   have hsm : kids.length ≤ 9223372036854775807 := Nat.le_trans (Nat.le_trans h4 h5) (by decide)
   obtain ⟨X, hX⟩ : ∃ X, cpieces (sumT h) 0 (kids.map Ex.c) = X := ⟨_, rfl⟩
   rw [hX] at hlen ⊢
   simp only [List.length_append, List.length_cons, List.length_nil] at hlen
   rw [xv_mk]
   obtain ⟨L, hL⟩ : ∃ L, kids.length = L := ⟨_, rfl⟩
   rw [hL] at hsm h4 h7 ⊢
   have HL := Lib.hid hL
   have HWK := Lib.hid hwk
   have HP := Lib.hid HS
   have HX0 := Lib.hid (show [] ++ cpieces (sumT h) 0 ((kids.map Ex.c).drop 0) = X from hX)
   have HB0 := Lib.hid (And.intro hB0 (And.intro hb0 hBw))
   have hw1 := Wb.stays hW hBw (below_box w (.cells #[.int .i64 7, .int .i64 n, .int .i64 d, .int .i64 u, .slice oa L cap] 27))
   have hx1 := Blk.new w 27 #[.int .i64 7, .int .i64 n, .int .i64 d, .int .i64 u, .slice oa L cap]
   have hB1 : B ≤ (w.alloc (.cells #[.int .i64 7, .int .i64 n, .int .i64 d, .int .i64 u, .slice oa L cap] 27)).heap.size := Nat.le_trans hBw (below_box _ _).size
   have HW1 := Lib.hid (And.intro hw1 (And.intro hx1 hB1))
   have HNE := Lib.hid (And.intro hne hlen)
   have hput := writeString_any B b l [109, 97, 120, 40] _ hw1.is (by simp only [List.length_cons, List.length_nil]; omega) hB1
   have HPUT := Lib.hid hput
   clear hput hw1 hx1 hB1 hne hlen hX hL hwr hwk hW hbw hB0 hb0 hBw h1 h2 h3 h5 h6 HS
   go_enter Tryz.func19, Tryz.ntmps19
   go_wp2_with fail
   ((with_reducible refine HPUT.out.mono ?_); rintro e w2 ⟨rfl, hw2⟩)
   have HW2 := Lib.hid (HW1.out.1.trans hw2)
   have hx2 := hw2.keep _ _ _ HNE.out.1 neExpr HW1.out.2.1
   have HX2 := Lib.hid hx2
   obtain ⟨cb0, fcb0, cb1, fcb1, cb2, fcb2, cb3, fcb3, cb4, fcb4, lcb⟩ := Blk.five (hx2)
   clear hw2 hx2
   have HG2 := Lib.hid (show Wb B b (l ++ [109, 97, 120, 40] ++ []) w w2 ∧ Blk w2 w.heap.size 27 #[.int .i64 7, .int .i64 n, .int .i64 d, .int .i64 u, .slice oa L cap] from ⟨by rw [List.append_nil]; exact HW2.out, HX2.out⟩)
   go_wp2_with fail
   go_loopg [63] L (fun kk s63 wr => ∃ (i : Nat) (D : List UInt8), s63 = .int .i64 i ∧ Hid (Wb B b (l ++ [109, 97, 120, 40] ++ D) w wr ∧ Blk wr w.heap.size 27 #[.int .i64 7, .int .i64 n, .int .i64 d, .int .i64 u, .slice oa L cap]) ∧ i ≤ L ∧ Hid (D ++ cpieces (sumT h) i ((kids.map Ex.c).drop i) = X) ∧ L - i ≤ kk)
   case atStart => exact ⟨0, [], rfl, HG2, Nat.zero_le _, HX0, by omega⟩
   case round =>
    obtain ⟨i, D, rfl, hg, hle, hY, hk2⟩ := hrel
    clear cb0 cb1 cb2 cb3 cb4 fcb0 fcb1 fcb2 fcb3 fcb4 lcb
    have hbel := Lib.hid (Below.trans HB0.out.2.1 (hg.out.1.below.mono HB0.out.1))
    have hbr : B ≤ wr.heap.size := Nat.le_trans HB0.out.2.2 hg.out.1.below.size
    by_cases hi : i < L
    · have gi : decide ((i : Int) < (L : Int)) = true := by simpa using hi
      have gin : decide (i < L) = true := by simpa using hi
      have hil : i < kids.length := by rw [HL.out]; exact hi
      have hr : kids[i]? = some kids[i] := List.getElem?_eq_getElem hil
      have hx := h8 i _ hr
      have hdr : (kids.map Ex.c).drop i = kids[i].c :: (kids.map Ex.c).drop (i + 1) := by
       rw [← List.map_drop, List.drop_eq_getElem_cons hil, List.map_cons, List.map_drop]
      have hci : (kids.map Ex.c)[i]? = some kids[i].c := by rw [List.getElem?_map, hr]; rfl
      have hsame := HWK.out.same (by decide) hci (fun _ e => by revert e; decide) (fun _ e => by revert e; decide)
      obtain ⟨rfl, hbl⟩ := h7 (by omega)
      generalize kids[i] = x at *
      have hlaw := hY.out
      rw [cpieces_drop hdr] at hlaw
      clear hr hil hci hdr h7 h8 hY
      have hall := fun (l2 : List UInt8) wx (hwx : Wb B b l2 w wx) hl => HP.out x B b l2 wx ⟨hx.2, hsame⟩ HB0.out.1 (HB0.out.2.1.trans (hwx.below.mono HB0.out.1)) hwx.is (Nat.le_trans HB0.out.2.2 hwx.below.size) hl
      obtain ⟨E, hE⟩ : ∃ E, sumT h x.c = E := ⟨_, rfl⟩
      rw [hE] at hall hlaw
      obtain ⟨k', n', d', u', oa', b', o', cap', kids'⟩ := x
      obtain ⟨L', hL'⟩ : ∃ L', kids'.length = L' := ⟨_, rfl⟩
      have f0 : wr.cell? ⟨bb, o + i * 5, none⟩ = some (.int .i64 k') := (hbel.out.cell hbl).trans (hx.1 0 _ rfl)
      have f1 : wr.cell? ⟨bb, o + i * 5 + 1, none⟩ = some (.int .i64 n') := (hbel.out.cell hbl).trans (hx.1 1 _ rfl)
      have f2 : wr.cell? ⟨bb, o + i * 5 + 2, none⟩ = some (.int .i64 d') := (hbel.out.cell hbl).trans (hx.1 2 _ rfl)
      have f3 : wr.cell? ⟨bb, o + i * 5 + 3, none⟩ = some (.int .i64 u') := (hbel.out.cell hbl).trans (hx.1 3 _ rfl)
      have f4 : wr.cell? ⟨bb, o + i * 5 + 4, none⟩ = some (.slice oa' L' cap') := by rw [← hL']; exact (hbel.out.cell hbl).trans (hx.1 4 _ rfl)
      rw [xv_mk, hL'] at hall
      have HALL := Lib.hid hall
      have HLW := Lib.hid hlaw
      clear hx hsame hall hlaw hE hL'
      go_upto_region 20 with fail
      have hw7 := hg.out.1.trans (Wb.stays hg.out.1.is hbr (below_box wr (.cells #[.int .i64 k', .int .i64 n', .int .i64 d', .int .i64 u', .slice oa' L' cap'] 27)))
      have hk7 := Blk.new wr 27 #[.int .i64 k', .int .i64 n', .int .i64 d', .int .i64 u', .slice oa' L' cap']
      have hn7 : wr.heap.size ≠ b := by have := hg.out.1.is.lt; omega
      have HX7 := Lib.hid (hg.out.2.old (.cells #[.int .i64 k', .int .i64 n', .int .i64 d', .int .i64 u', .slice oa' L' cap'] 27))
      have hb7 : B ≤ (wr.alloc (.cells #[.int .i64 k', .int .i64 n', .int .i64 d', .int .i64 u', .slice oa' L' cap'] 27)).heap.size := Nat.le_trans hbr (below_box _ _).size
      obtain ⟨g7, hg7⟩ : ∃ g7, wr.heap.size = g7 := ⟨_, rfl⟩
      rw [hg7] at hk7 hn7
      simp only [hg7]
      clear hg7 f0 f1 f2 f3 f4 hbr
      generalize wr.alloc _ = w7 at *
      have HW7 := Lib.hid (And.intro hw7 (And.intro hk7 (And.intro hn7 hb7)))
      obtain ⟨cg0, fcg0, cg1, fcg1, cg2, fcg2, cg3, fcg3, cg4, fcg4, lcg⟩ := Blk.five (hk7)
      clear hw7 hk7 hn7 hb7
      by_cases hi0 : i = 0
      · have ge : decide ((i : Int) > (0 : Int)) = false := by simp; omega
        have ge2 : decide ((0 : Int) < (i : Int)) = false := by simp; omega
        have ge3 : decide (0 < i) = false := by simp; omega
        have hlw2 := HLW.out
        rw [if_pos hi0] at hlw2
        have hcall := HALL.out _ w7 HW7.out.1 (by
         have := HNE.out.2
         rw [← hlw2] at this
         simp only [List.length_append, List.length_cons, List.length_nil] at this ⊢
         omega)
        have HLW := Lib.hid hlw2
        have HCALL := Lib.hid hcall
        clear hcall hlw2 hi0
        go_wp2_with fail
        ((with_reducible refine HCALL.out.mono ?_); rintro e w' ⟨rfl, hwb⟩)
        have HW9 := Lib.hid (show Wb B b (l ++ [109, 97, 120, 40] ++ D ++ E) w w' ∧ Blk w' w.heap.size 27 #[.int .i64 7, .int .i64 n, .int .i64 d, .int .i64 u, .slice (some ⟨bb, o, none⟩) L cap] from ⟨HW7.out.1.trans hwb, hwb.keep _ _ _ HNE.out.1 neExpr HX7.out⟩)
        clear hwb
        go_wp2_with fail
        go_roundg (L - (i + 1))
        case measure => omega
        case rel => exact ⟨i + 1, D ++ E, by go_num, Lib.hid ⟨by have := HW9.out.1; first | exact this | simpa only [List.append_assoc] using this, HW9.out.2⟩, hi, Lib.hid (by have := HLW.out; first | exact this | simpa only [List.append_assoc] using this), Nat.le_refl _⟩
      · have ge : decide ((i : Int) > (0 : Int)) = true := by simp; omega
        have ge2 : decide ((0 : Int) < (i : Int)) = true := by simp; omega
        have ge3 : decide (0 < i) = true := by simp; omega
        have hlw2 := HLW.out
        rw [if_neg hi0] at hlw2
        have hln := HNE.out.2
        rw [← hlw2] at hln
        simp only [List.length_append, List.length_cons, List.length_nil] at hln
        have hput := writeString_any B b (l ++ [109, 97, 120, 40] ++ D) [44, 32] w7 HW7.out.1.is (by simp only [List.length_append, List.length_cons, List.length_nil]; omega) HW7.out.2.2.2
        have hcall := fun wx (hwx : Wb B b (l ++ [109, 97, 120, 40] ++ D ++ [44, 32]) w wx) => HALL.out _ wx hwx (by simp only [List.length_append, List.length_cons, List.length_nil]; omega)
        have HLW := Lib.hid hlw2
        have HCALL := Lib.hid hcall
        have HPUT := Lib.hid hput
        clear hcall hlw2 hi0 hput hln
        go_wp2_with fail
        ((with_reducible refine HPUT.out.mono ?_); rintro e w8 ⟨rfl, hw8⟩)
        have HW8 := Lib.hid (HW7.out.1.trans hw8)
        have hk8 := hw8.keep _ _ _ HW7.out.2.2.1 neExpr HW7.out.2.1
        have HX8 := Lib.hid (hw8.keep _ _ _ HNE.out.1 neExpr HX7.out)
        have hc8 := HCALL.out w8 HW8.out
        obtain ⟨ch0, fch0, ch1, fch1, ch2, fch2, ch3, fch3, ch4, fch4, lch⟩ := Blk.five (hk8)
        have HC8 := Lib.hid hc8
        clear hw8 hk8 hc8
        go_wp2_with fail
        ((with_reducible refine HC8.out.mono ?_); rintro e w' ⟨rfl, hwb⟩)
        have HW9 := Lib.hid (show Wb B b (l ++ [109, 97, 120, 40] ++ D ++ [44, 32] ++ E) w w' ∧ Blk w' w.heap.size 27 #[.int .i64 7, .int .i64 n, .int .i64 d, .int .i64 u, .slice (some ⟨bb, o, none⟩) L cap] from ⟨HW8.out.trans hwb, hwb.keep _ _ _ HNE.out.1 neExpr HX8.out⟩)
        clear hwb
        go_wp2_with fail
        go_roundg (L - (i + 1))
        case measure => omega
        case rel => exact ⟨i + 1, D ++ ([44, 32] ++ E), by go_num, Lib.hid ⟨by have := HW9.out.1; first | exact this | simpa only [List.append_assoc] using this, HW9.out.2⟩, hi, Lib.hid (by have := HLW.out; first | exact this | simpa only [List.append_assoc] using this), Nat.le_refl _⟩
    · obtain rfl : i = L := by omega
      have gi : decide ((i : Int) < (i : Int)) = false := by simp
      have gin : decide (i < i) = false := by simp
      have hD2 : D = X := by
       have := hY.out
       rw [List.drop_eq_nil_of_le (by rw [List.length_map, HL.out]; exact Nat.le_refl _)] at this
       simpa [cpieces] using this
      subst hD2
      have HPE := Lib.hid (writeString_any B b (l ++ [109, 97, 120, 40] ++ D) [41] wr hg.out.1.is (by have := HNE.out.2; simp only [List.length_append, List.length_cons, List.length_nil]; omega) hbr)
      clear h7 h8 hbr
      go_wp2_with fail
      ((with_reducible refine HPE.out.mono ?_); rintro e w4 ⟨rfl, hw4⟩)
      have HF := Lib.hid (show Wb B b (l ++ ([109, 97, 120, 40] ++ D ++ [41])) w w4 by have := hg.out.1.trans hw4; simpa only [List.append_assoc, List.cons_append, List.nil_append] using this)
      clear hw4
      go_wp2_with fail
      go_end0
      exact ⟨rfl, HF.out⟩
 · subst hk
   have hT : operX (sumT h) (Ex.mk 8 n d u oa bb o cap kids).c = [99, 108, 97, 109, 112, 40] ++ cpieces (sumT h) 0 (kids.map Ex.c) ++ [41] := by
    rw [Ex.c_mk, operX_clamp]
   rw [hT] at hlen ⊢
   clear hT h24
   have hwk : Wk (h + 1) (Ex.mk 8 n d u oa bb o cap kids).c := ⟨hwr.1, hwr.2.1⟩
   rw [Ex.c_mk] at hwk
   obtain ⟨h1, h2, h3, h4, h5, h6, h7, h8⟩ := hx
   have hsm : kids.length ≤ 9223372036854775807 := Nat.le_trans (Nat.le_trans h4 h5) (by decide)
   obtain ⟨X, hX⟩ : ∃ X, cpieces (sumT h) 0 (kids.map Ex.c) = X := ⟨_, rfl⟩
   rw [hX] at hlen ⊢
   simp only [List.length_append, List.length_cons, List.length_nil] at hlen
   rw [xv_mk]
   obtain ⟨L, hL⟩ : ∃ L, kids.length = L := ⟨_, rfl⟩
   rw [hL] at hsm h4 h7 ⊢
   have HL := Lib.hid hL
   have HWK := Lib.hid hwk
   have HP := Lib.hid HS
   have HX0 := Lib.hid (show [] ++ cpieces (sumT h) 0 ((kids.map Ex.c).drop 0) = X from hX)
   have HB0 := Lib.hid (And.intro hB0 (And.intro hb0 hBw))
   have hw1 := Wb.stays hW hBw (below_box w (.cells #[.int .i64 8, .int .i64 n, .int .i64 d, .int .i64 u, .slice oa L cap] 27))
   have hx1 := Blk.new w 27 #[.int .i64 8, .int .i64 n, .int .i64 d, .int .i64 u, .slice oa L cap]
   have hB1 : B ≤ (w.alloc (.cells #[.int .i64 8, .int .i64 n, .int .i64 d, .int .i64 u, .slice oa L cap] 27)).heap.size := Nat.le_trans hBw (below_box _ _).size
   have HW1 := Lib.hid (And.intro hw1 (And.intro hx1 hB1))
   have HNE := Lib.hid (And.intro hne hlen)
   have hput := writeString_any B b l [99, 108, 97, 109, 112, 40] _ hw1.is (by simp only [List.length_cons, List.length_nil]; omega) hB1
   have HPUT := Lib.hid hput
   clear hput hw1 hx1 hB1 hne hlen hX hL hwr hwk hW hbw hB0 hb0 hBw h1 h2 h3 h5 h6 HS
   go_enter Tryz.func19, Tryz.ntmps19
   go_wp2_with fail
   ((with_reducible refine HPUT.out.mono ?_); rintro e w2 ⟨rfl, hw2⟩)
   have HW2 := Lib.hid (HW1.out.1.trans hw2)
   have hx2 := hw2.keep _ _ _ HNE.out.1 neExpr HW1.out.2.1
   have HX2 := Lib.hid hx2
   obtain ⟨cb0, fcb0, cb1, fcb1, cb2, fcb2, cb3, fcb3, cb4, fcb4, lcb⟩ := Blk.five (hx2)
   clear hw2 hx2
   have HG2 := Lib.hid (show Wb B b (l ++ [99, 108, 97, 109, 112, 40] ++ []) w w2 ∧ Blk w2 w.heap.size 27 #[.int .i64 8, .int .i64 n, .int .i64 d, .int .i64 u, .slice oa L cap] from ⟨by rw [List.append_nil]; exact HW2.out, HX2.out⟩)
   go_wp2_with fail
   go_loopg [63] L (fun kk s63 wr => ∃ (i : Nat) (D : List UInt8), s63 = .int .i64 i ∧ Hid (Wb B b (l ++ [99, 108, 97, 109, 112, 40] ++ D) w wr ∧ Blk wr w.heap.size 27 #[.int .i64 8, .int .i64 n, .int .i64 d, .int .i64 u, .slice oa L cap]) ∧ i ≤ L ∧ Hid (D ++ cpieces (sumT h) i ((kids.map Ex.c).drop i) = X) ∧ L - i ≤ kk)
   case atStart => exact ⟨0, [], rfl, HG2, Nat.zero_le _, HX0, by omega⟩
   case round =>
    obtain ⟨i, D, rfl, hg, hle, hY, hk2⟩ := hrel
    clear cb0 cb1 cb2 cb3 cb4 fcb0 fcb1 fcb2 fcb3 fcb4 lcb
    have hbel := Lib.hid (Below.trans HB0.out.2.1 (hg.out.1.below.mono HB0.out.1))
    have hbr : B ≤ wr.heap.size := Nat.le_trans HB0.out.2.2 hg.out.1.below.size
    by_cases hi : i < L
    · have gi : decide ((i : Int) < (L : Int)) = true := by simpa using hi
      have gin : decide (i < L) = true := by simpa using hi
      have hil : i < kids.length := by rw [HL.out]; exact hi
      have hr : kids[i]? = some kids[i] := List.getElem?_eq_getElem hil
      have hx := h8 i _ hr
      have hdr : (kids.map Ex.c).drop i = kids[i].c :: (kids.map Ex.c).drop (i + 1) := by
       rw [← List.map_drop, List.drop_eq_getElem_cons hil, List.map_cons, List.map_drop]
      have hci : (kids.map Ex.c)[i]? = some kids[i].c := by rw [List.getElem?_map, hr]; rfl
      have hsame := HWK.out.same (by decide) hci (fun _ e => by revert e; decide) (fun _ e => by revert e; decide)
      obtain ⟨rfl, hbl⟩ := h7 (by omega)
      generalize kids[i] = x at *
      have hlaw := hY.out
      rw [cpieces_drop hdr] at hlaw
      clear hr hil hci hdr h7 h8 hY
      have hall := fun (l2 : List UInt8) wx (hwx : Wb B b l2 w wx) hl => HP.out x B b l2 wx ⟨hx.2, hsame⟩ HB0.out.1 (HB0.out.2.1.trans (hwx.below.mono HB0.out.1)) hwx.is (Nat.le_trans HB0.out.2.2 hwx.below.size) hl
      obtain ⟨E, hE⟩ : ∃ E, sumT h x.c = E := ⟨_, rfl⟩
      rw [hE] at hall hlaw
      obtain ⟨k', n', d', u', oa', b', o', cap', kids'⟩ := x
      obtain ⟨L', hL'⟩ : ∃ L', kids'.length = L' := ⟨_, rfl⟩
      have f0 : wr.cell? ⟨bb, o + i * 5, none⟩ = some (.int .i64 k') := (hbel.out.cell hbl).trans (hx.1 0 _ rfl)
      have f1 : wr.cell? ⟨bb, o + i * 5 + 1, none⟩ = some (.int .i64 n') := (hbel.out.cell hbl).trans (hx.1 1 _ rfl)
      have f2 : wr.cell? ⟨bb, o + i * 5 + 2, none⟩ = some (.int .i64 d') := (hbel.out.cell hbl).trans (hx.1 2 _ rfl)
      have f3 : wr.cell? ⟨bb, o + i * 5 + 3, none⟩ = some (.int .i64 u') := (hbel.out.cell hbl).trans (hx.1 3 _ rfl)
      have f4 : wr.cell? ⟨bb, o + i * 5 + 4, none⟩ = some (.slice oa' L' cap') := by rw [← hL']; exact (hbel.out.cell hbl).trans (hx.1 4 _ rfl)
      rw [xv_mk, hL'] at hall
      have HALL := Lib.hid hall
      have HLW := Lib.hid hlaw
      clear hx hsame hall hlaw hE hL'
      go_upto_region 20 with fail
      have hw7 := hg.out.1.trans (Wb.stays hg.out.1.is hbr (below_box wr (.cells #[.int .i64 k', .int .i64 n', .int .i64 d', .int .i64 u', .slice oa' L' cap'] 27)))
      have hk7 := Blk.new wr 27 #[.int .i64 k', .int .i64 n', .int .i64 d', .int .i64 u', .slice oa' L' cap']
      have hn7 : wr.heap.size ≠ b := by have := hg.out.1.is.lt; omega
      have HX7 := Lib.hid (hg.out.2.old (.cells #[.int .i64 k', .int .i64 n', .int .i64 d', .int .i64 u', .slice oa' L' cap'] 27))
      have hb7 : B ≤ (wr.alloc (.cells #[.int .i64 k', .int .i64 n', .int .i64 d', .int .i64 u', .slice oa' L' cap'] 27)).heap.size := Nat.le_trans hbr (below_box _ _).size
      obtain ⟨g7, hg7⟩ : ∃ g7, wr.heap.size = g7 := ⟨_, rfl⟩
      rw [hg7] at hk7 hn7
      simp only [hg7]
      clear hg7 f0 f1 f2 f3 f4 hbr
      generalize wr.alloc _ = w7 at *
      have HW7 := Lib.hid (And.intro hw7 (And.intro hk7 (And.intro hn7 hb7)))
      obtain ⟨cg0, fcg0, cg1, fcg1, cg2, fcg2, cg3, fcg3, cg4, fcg4, lcg⟩ := Blk.five (hk7)
      clear hw7 hk7 hn7 hb7
      by_cases hi0 : i = 0
      · have ge : decide ((i : Int) > (0 : Int)) = false := by simp; omega
        have ge2 : decide ((0 : Int) < (i : Int)) = false := by simp; omega
        have ge3 : decide (0 < i) = false := by simp; omega
        have hlw2 := HLW.out
        rw [if_pos hi0] at hlw2
        have hcall := HALL.out _ w7 HW7.out.1 (by
         have := HNE.out.2
         rw [← hlw2] at this
         simp only [List.length_append, List.length_cons, List.length_nil] at this ⊢
         omega)
        have HLW := Lib.hid hlw2
        have HCALL := Lib.hid hcall
        clear hcall hlw2 hi0
        go_wp2_with fail
        ((with_reducible refine HCALL.out.mono ?_); rintro e w' ⟨rfl, hwb⟩)
        have HW9 := Lib.hid (show Wb B b (l ++ [99, 108, 97, 109, 112, 40] ++ D ++ E) w w' ∧ Blk w' w.heap.size 27 #[.int .i64 8, .int .i64 n, .int .i64 d, .int .i64 u, .slice (some ⟨bb, o, none⟩) L cap] from ⟨HW7.out.1.trans hwb, hwb.keep _ _ _ HNE.out.1 neExpr HX7.out⟩)
        clear hwb
        go_wp2_with fail
        go_roundg (L - (i + 1))
        case measure => omega
        case rel => exact ⟨i + 1, D ++ E, by go_num, Lib.hid ⟨by have := HW9.out.1; first | exact this | simpa only [List.append_assoc] using this, HW9.out.2⟩, hi, Lib.hid (by have := HLW.out; first | exact this | simpa only [List.append_assoc] using this), Nat.le_refl _⟩
      · have ge : decide ((i : Int) > (0 : Int)) = true := by simp; omega
        have ge2 : decide ((0 : Int) < (i : Int)) = true := by simp; omega
        have ge3 : decide (0 < i) = true := by simp; omega
        have hlw2 := HLW.out
        rw [if_neg hi0] at hlw2
        have hln := HNE.out.2
        rw [← hlw2] at hln
        simp only [List.length_append, List.length_cons, List.length_nil] at hln
        have hput := writeString_any B b (l ++ [99, 108, 97, 109, 112, 40] ++ D) [44, 32] w7 HW7.out.1.is (by simp only [List.length_append, List.length_cons, List.length_nil]; omega) HW7.out.2.2.2
        have hcall := fun wx (hwx : Wb B b (l ++ [99, 108, 97, 109, 112, 40] ++ D ++ [44, 32]) w wx) => HALL.out _ wx hwx (by simp only [List.length_append, List.length_cons, List.length_nil]; omega)
        have HLW := Lib.hid hlw2
        have HCALL := Lib.hid hcall
        have HPUT := Lib.hid hput
        clear hcall hlw2 hi0 hput hln
        go_wp2_with fail
        ((with_reducible refine HPUT.out.mono ?_); rintro e w8 ⟨rfl, hw8⟩)
        have HW8 := Lib.hid (HW7.out.1.trans hw8)
        have hk8 := hw8.keep _ _ _ HW7.out.2.2.1 neExpr HW7.out.2.1
        have HX8 := Lib.hid (hw8.keep _ _ _ HNE.out.1 neExpr HX7.out)
        have hc8 := HCALL.out w8 HW8.out
        obtain ⟨ch0, fch0, ch1, fch1, ch2, fch2, ch3, fch3, ch4, fch4, lch⟩ := Blk.five (hk8)
        have HC8 := Lib.hid hc8
        clear hw8 hk8 hc8
        go_wp2_with fail
        ((with_reducible refine HC8.out.mono ?_); rintro e w' ⟨rfl, hwb⟩)
        have HW9 := Lib.hid (show Wb B b (l ++ [99, 108, 97, 109, 112, 40] ++ D ++ [44, 32] ++ E) w w' ∧ Blk w' w.heap.size 27 #[.int .i64 8, .int .i64 n, .int .i64 d, .int .i64 u, .slice (some ⟨bb, o, none⟩) L cap] from ⟨HW8.out.trans hwb, hwb.keep _ _ _ HNE.out.1 neExpr HX8.out⟩)
        clear hwb
        go_wp2_with fail
        go_roundg (L - (i + 1))
        case measure => omega
        case rel => exact ⟨i + 1, D ++ ([44, 32] ++ E), by go_num, Lib.hid ⟨by have := HW9.out.1; first | exact this | simpa only [List.append_assoc] using this, HW9.out.2⟩, hi, Lib.hid (by have := HLW.out; first | exact this | simpa only [List.append_assoc] using this), Nat.le_refl _⟩
    · obtain rfl : i = L := by omega
      have gi : decide ((i : Int) < (i : Int)) = false := by simp
      have gin : decide (i < i) = false := by simp
      have hD2 : D = X := by
       have := hY.out
       rw [List.drop_eq_nil_of_le (by rw [List.length_map, HL.out]; exact Nat.le_refl _)] at this
       simpa [cpieces] using this
      subst hD2
      have HPE := Lib.hid (writeString_any B b (l ++ [99, 108, 97, 109, 112, 40] ++ D) [41] wr hg.out.1.is (by have := HNE.out.2; simp only [List.length_append, List.length_cons, List.length_nil]; omega) hbr)
      clear h7 h8 hbr
      go_wp2_with fail
      ((with_reducible refine HPE.out.mono ?_); rintro e w4 ⟨rfl, hw4⟩)
      have HF := Lib.hid (show Wb B b (l ++ ([99, 108, 97, 109, 112, 40] ++ D ++ [41])) w w4 by have := hg.out.1.trans hw4; simpa only [List.append_assoc, List.cons_append, List.nil_append] using this)
      clear hw4
      go_wp2_with fail
      go_end0
      exact ⟨rfl, HF.out⟩
theorem wsum_all (w0 : World) (hD : Deb w0) : ∀ h, WSumAt w0 h
 | 0 => fun _ _ _ _ _ hC => hC.1.elim
 | h + 1 => wsum_step w0 h (wproduct_step w0 h (woper_step w0 h hD (wsum_all w0 hD h)))
end Go.Proofs.YtplnhjmomomphaaGreatDoor

namespace Go.Proofs.YtplnhjmomomphaaGreatDoor
set_option linter.unusedVariables false
set_option linter.unusedSimpArgs false
open Go.Lib
theorem plainF_len {r : Rt} {whole : Bool} {t : List UInt8} (h : plainF r whole = some t) (h1 : -9223372036854775808 ≤ r.1) (h2 : r.1 ≤ 9223372036854775807) (h4 : r.2 ≤ 9223372036854775807) : t.length ≤ 512 := by
 unfold plainF at h
 split at h
 · cases h
 · rename_i hm
   split at h
   · obtain rfl := Option.some.inj h
     split
     · exact (by decide : ninesT.length ≤ 512)
     · exact (by decide : farT.length ≤ 512)
   · rename_i h0
     split at h
     · cases h
     · rename_i num k hr
       split at h
       · cases h
       · obtain rfl := Option.some.inj h
         have hs : 1 ≤ r.2 ∧ r.1.natAbs ≤ 9223372036854775807 := by
          rw [not_or] at hm
          have := hm.1
          simp only [mayB, Bool.not_eq_false, Bool.or_eq_true, Bool.and_eq_true, decide_eq_true_eq] at this
          rcases this with hh | hh
          · exact absurd hh.2 h0
          · have := sure_parts hh
            omega
         obtain ⟨b1, b2⟩ := refL_bound (d := r.2.toNat) (n := r.1.natAbs) (by omega) hs.2 (by omega) hr
         have l1 : (decDigits num).length ≤ 20 := by rw [decDigits_length]; exact nDigits_le20 num (by omega)
         have l2 : (padF (decDigits num) k).length ≤ 100 := by
          unfold padF
          split
          · rw [List.length_append, List.length_replicate]; omega
          · omega
         unfold plainT
         simp only [List.length_append, List.length_take]
         have l3 : ((padF (decDigits num) k).drop ((padF (decDigits num) k).length - k)).length ≤ 100 := by rw [List.length_drop]; omega
         split <;> split <;> (try split) <;> simp only [List.length_append, List.length_cons, List.length_nil] <;> omega
mutual
def szE : Et → Nat
 | .mk _ _ _ _ l => szEs l + 1
def szEs : List Et → Nat
 | [] => 0
 | x :: r => szE x + szEs r
end
mutual
/-- all numbers are of 64 bits -/
def okE : Et → Prop
 | .mk _ n d _ l => Is64 (n, d) ∧ okEs l
def okEs : List Et → Prop
 | [] => True
 | x :: r => okE x ∧ okEs r
end
theorem okEs_all : ∀ l : List Et, okEs l ↔ ∀ x ∈ l, okE x
 | [] => by simp [okEs]
 | x :: r => by rw [okEs, okEs_all r]; simp
theorem szE_mk (k n d u : Int) (l : List Et) : szE (.mk k n d u l) = szEs l + 1 := by rw [szE]
theorem szEs_cons (x : Et) (r : List Et) : szEs (x :: r) = szE x + szEs r := by rw [szEs]
theorem okE_of : ∀ (h : Nat) {e : Ex} {w : World}, ExIn w h e → okE e.c
 | 0, _, _, h => h.elim
 | h + 1, .mk k n d u oa b o cap kids, w, hx => by
   obtain ⟨_, h2, _, _, _, _, _, h8⟩ := hx
   rw [Ex.c_mk, okE, okEs_all]
   refine ⟨h2, fun x hx => ?_⟩
   obtain ⟨y, hy, rfl⟩ := List.mem_map.1 hx
   obtain ⟨i, hi⟩ := List.mem_iff_getElem?.1 hy
   exact okE_of h (h8 i y hi).2
theorem unitN_len (u : Int) : (unitN u).length ≤ 3 := by
 unfold unitN
 split
 · have h : ∀ i, (unitsS.getD i []).length ≤ 3 := fun i => by
    match i with
    | 0 | 1 | 2 | 3 | 4 | 5 | 6 => decide
    | i + 7 => simp [unitsS]
   exact h _
 · simp
theorem numW_len {n d u : Int} (h : Is64 (n, d)) : (numW n d u).length ≤ 515 := by
 unfold numW
 have hu := unitN_len u
 rw [List.length_append]
 cases hp : plainF (n, d) (d == 1) with
 | none => simp; omega
 | some t =>
   have := plainF_len hp h.1 h.2.1 h.2.2.2
   simp; omega
/-- so many letters at most for each part -/
def perE : Nat := 1024
theorem pieces_len {O : Et → List UInt8} {t : Int} {a b : UInt8} : ∀ (l : List Et) (i : Nat), (∀ x ∈ l, x.kind ≠ t → (O x).length + 3 ≤ perE * szE x) →
 (∀ (x : Et), l[0]? = some x → i = 0 → (O x).length + 3 ≤ perE * szE x) → (∀ x ∈ l, x.kind = t → (O (kid0 x)).length + 3 ≤ perE * szE x) → (piecesX O t a b i l).length ≤ perE * szEs l
 | [], _, _, _, _ => by simp [piecesX]
 | x :: r, i, h, h0, ht => by
   have ih := pieces_len (O := O) (t := t) (a := a) (b := b) r (i + 1) (fun y hy => h y (List.mem_cons_of_mem _ hy)) (fun _ _ h => by omega) (fun y hy => ht y (List.mem_cons_of_mem _ hy))
   rw [piecesX, List.length_append, szEs_cons, Nat.mul_add]
   have : (pieceX O t a b i x).length ≤ perE * szE x := by
    unfold pieceX
    by_cases hi : i = 0
    · rw [if_pos hi]
      have := h0 x rfl hi
      omega
    · rw [if_neg hi]
      by_cases hk : x.kind = t
      · rw [if_pos hk]
        have := ht x List.mem_cons_self hk
        simp only [List.length_append, List.length_cons, List.length_nil]
        omega
      · rw [if_neg hk]
        have := h x List.mem_cons_self hk
        simp only [List.length_append, List.length_cons, List.length_nil]
        omega
   omega
theorem cpieces_len {S : Et → List UInt8} : ∀ (l : List Et) (i : Nat), (∀ x ∈ l, (S x).length + 2 ≤ perE * szE x) → (cpieces S i l).length ≤ perE * szEs l
 | [], _, _ => by simp [cpieces]
 | x :: r, i, h => by
   have ih := cpieces_len (S := S) r (i + 1) (fun y hy => h y (List.mem_cons_of_mem _ hy))
   have hx := h x List.mem_cons_self
   rw [cpieces, List.length_append, szEs_cons, Nat.mul_add]
   have : (if i = 0 then S x else [44, 32] ++ S x).length ≤ perE * szE x := by
    split
    · omega
    · simp only [List.length_append, List.length_cons, List.length_nil]
      omega
   omega
theorem kid0_sz {e : Et} {x : Et} (h : e.list = [x]) : kid0 e = x ∧ szE x ≤ szE e ∧ (okE e → okE x) := by
 obtain ⟨k, n, d, u, l⟩ := e
 have h' : l = [x] := h
 subst h'
 refine ⟨rfl, ?_, fun ho => ?_⟩
 · rw [szE_mk, szEs_cons]
   omega
 · rw [okE, okEs] at ho
   exact ho.2.1
theorem oper_len {h : Nat} (ih : ∀ e, Wr h e → okE e → (sumT h e).length + 8 ≤ perE * szE e) {e : Et} (hw : Wr (h + 1) e) (h24 : e.kind = 2 ∨ e.kind = 4 → Wr h e) (ho : okE e) :
 (operX (sumT h) e).length + 6 ≤ perE * szE e ∧ (¬ (e.kind = 2 ∨ e.kind = 4) → (operX (sumT h) e).length + 8 ≤ perE * szE e) := by
 obtain ⟨k, n, d, u, l⟩ := e
 rw [kind_mk] at h24 ⊢
 have hk := hw.kinds
 have hP : 0 < perE := by decide
 have hwk : Wk (h + 1) (.mk k n d u l) := ⟨hw.1, hw.2.1⟩
 have kids : k = 6 ∨ k = 7 ∨ k = 8 → (cpieces (sumT h) 0 l).length ≤ perE * szEs l := fun hk => by
  refine cpieces_len l 0 fun x hx => ?_
  obtain ⟨j, hj⟩ := List.mem_iff_getElem?.1 hx
  rw [okE, okEs_all] at ho
  have := ih x (hwk.same (by omega) hj (fun _ => by omega) (fun _ => by omega)) (ho.2 x hx)
  omega
 have hs : perE * szE (.mk k n d u l) = perE * szEs l + perE := by rw [szE_mk, Nat.mul_add, Nat.mul_one]
 rw [hs]
 have hpe : perE = 1024 := rfl
 rcases hk with rfl | hk | hk | rfl | rfl | rfl
 · rw [operX_num]
   rw [okE] at ho
   have := numW_len (u := u) ho.1
   omega
 · have := ih _ (h24 (Or.inl hk)) ho
   rw [operX_par _ _ _ _ _ (Or.inl hk)]
   rw [hs] at this
   simp only [List.length_append, List.length_cons, List.length_nil]
   omega
 · have := ih _ (h24 (Or.inr hk)) ho
   rw [operX_par _ _ _ _ _ (Or.inr hk)]
   rw [hs] at this
   simp only [List.length_append, List.length_cons, List.length_nil]
   omega
 · have := kids (by omega)
   rw [operX_min]
   simp only [List.length_append, List.length_cons, List.length_nil]
   omega
 · have := kids (by omega)
   rw [operX_max]
   simp only [List.length_append, List.length_cons, List.length_nil]
   omega
 · have := kids (by omega)
   rw [operX_clamp]
   simp only [List.length_append, List.length_cons, List.length_nil]
   omega
theorem prod_len {h : Nat} (ih : ∀ e, Wr h e → okE e → (sumT h e).length + 8 ≤ perE * szE e) {e : Et} (hw : Wr (h + 1) e) (h2 : e.kind = 2 → Wr h e) (ho : okE e) :
 (prodX (sumT h) e).length + 6 ≤ perE * szE e ∧ (e.kind ≠ 2 → (prodX (sumT h) e).length + 8 ≤ perE * szE e) := by
 by_cases hk : e.kind = 4
 · obtain ⟨k, n, d, u, l⟩ := e
   rw [kind_mk] at hk
   have hwk : Wk (h + 1) (.mk k n d u l) := ⟨hw.1, hw.2.1⟩
   have ho2 := ho
   rw [okE, okEs_all] at ho2
   have each : ∀ x, Wr h x → okE x → (operX (sumT h) x).length + 3 ≤ perE * szE x := fun x hx hox => by
    have := (oper_len ih hx.more (fun _ => hx) hox).1
    omega
   have tkid : ∀ x ∈ l, x.kind = 5 → (operX (sumT h) (kid0 x)).length + 3 ≤ perE * szE x := fun x hx hx5 => by
    obtain ⟨j, hj⟩ := List.mem_iff_getElem?.1 hx
    have hkid := (hwk.kid (by omega) hj).1
    obtain ⟨k', n', d', u', l'⟩ := x
    cases h with
    | zero => cases hkid.1
    | succ h =>
      obtain ⟨y, rfl, hy⟩ := hkid.turned (Or.inr hx5)
      obtain ⟨e1, e2, e3⟩ := kid0_sz (e := .mk k' n' d' u' [y]) rfl
      rw [e1]
      have := each y hy.more (e3 (ho2.2 _ hx))
      have := Nat.mul_le_mul_left perE e2
      omega
   have hb : (piecesX (operX (sumT h)) 5 42 47 0 l).length ≤ perE * szEs l := by
    refine pieces_len l 0 (fun x hx hx5 => ?_) (fun x hx _ => ?_) tkid
    · obtain ⟨j, hj⟩ := List.mem_iff_getElem?.1 hx
      exact each x (hwk.same (by omega) hj (fun _ => by omega) (fun e => absurd e hx5)) (ho2.2 x hx)
    · exact each x (hwk.first (by omega) hx) (ho2.2 x (List.mem_of_getElem? hx))
   have hs : perE * szE (.mk k n d u l) = perE * szEs l + perE := by rw [szE_mk, Nat.mul_add, Nat.mul_one]
   have hpe : perE = 1024 := rfl
   rw [hs, prodX_prod hk, join_pieces]
   omega
 · rw [prodX_other hk]
   have := oper_len ih hw (fun hh => h2 (hh.resolve_right hk)) ho
   exact ⟨this.1, fun h => this.2 (by omega)⟩
theorem sum_len : ∀ (h : Nat) (e : Et), Wr h e → okE e → (sumT h e).length + 8 ≤ perE * szE e
 | 0, e, hw, _ => by cases hw.1
 | h + 1, e, hw, ho => by
   have ih := sum_len h
   by_cases hk : e.kind = 2
   · obtain ⟨k, n, d, u, l⟩ := e
     rw [kind_mk] at hk
     have hwk : Wk (h + 1) (.mk k n d u l) := ⟨hw.1, hw.2.1⟩
     have ho2 := ho
     rw [okE, okEs_all] at ho2
     have each : ∀ x, Wr h x → okE x → (prodX (sumT h) x).length + 3 ≤ perE * szE x := fun x hx hox => by
      have := (prod_len ih hx.more (fun _ => hx) hox).1
      omega
     have tkid : ∀ x ∈ l, x.kind = 3 → (prodX (sumT h) (kid0 x)).length + 3 ≤ perE * szE x := fun x hx hx5 => by
      obtain ⟨j, hj⟩ := List.mem_iff_getElem?.1 hx
      have hkid := (hwk.kid (by omega) hj).1
      obtain ⟨k', n', d', u', l'⟩ := x
      cases h with
      | zero => cases hkid.1
      | succ h =>
        obtain ⟨y, rfl, hy⟩ := hkid.turned (Or.inl hx5)
        obtain ⟨e1, e2, e3⟩ := kid0_sz (e := .mk k' n' d' u' [y]) rfl
        rw [e1]
        have := each y hy.more (e3 (ho2.2 _ hx))
        have := Nat.mul_le_mul_left perE e2
        omega
     have hb : (piecesX (prodX (sumT h)) 3 43 45 0 l).length ≤ perE * szEs l := by
      refine pieces_len l 0 (fun x hx hx5 => ?_) (fun x hx _ => ?_) tkid
      · obtain ⟨j, hj⟩ := List.mem_iff_getElem?.1 hx
        exact each x (hwk.same (by omega) hj (fun e => absurd e hx5) (fun _ => by omega)) (ho2.2 x hx)
      · exact each x (hwk.first (by omega) hx) (ho2.2 x (List.mem_of_getElem? hx))
     have hs : perE * szE (.mk k n d u l) = perE * szEs l + perE := by rw [szE_mk, Nat.mul_add, Nat.mul_one]
     have hpe : perE = 1024 := rfl
     rw [hs, sumT_sum hk, join_pieces]
     omega
   · rw [sumT_other hk]
     exact (prod_len ih hw (fun h => absurd h hk) ho).2 hk
theorem textW_len {h : Nat} {e : Et} (hw : Wr h e) (ho : okE e) : (textW h e).length ≤ perE * szE e := by
 have h1 := sum_len h e hw ho
 unfold textW
 split
 · simp only [List.length_append, List.length_cons, List.length_nil]
   have : calcS.length = 4 := rfl
   omega
 · rename_i hk
   have := (oper_len (sum_len h) hw.more (fun hh => absurd hh hk) ho).1
   omega
theorem plainF_ne {r : Rt} {w : Bool} {t : List UInt8} (h : plainF r w = some t) : t ≠ [] := by
 unfold plainF at h
 split at h
 · cases h
 · split at h
   · obtain rfl := Option.some.inj h
     split
     · decide
     · decide
   · split at h
     · cases h
     · rename_i num k _
       split at h
       · cases h
       · obtain rfl := Option.some.inj h
         have hp : k < (padF (decDigits num) k).length := by
          unfold padF
          split
          · rw [List.length_append, List.length_replicate]
            omega
          · omega
         intro e
         have e2 := congrArg List.length e
         unfold plainT at e2
         simp only [List.length_append, List.length_take, List.length_nil] at e2
         omega
theorem textW_ne {h : Nat} {e : Et} (hw : Wr (h + 1) e) : textW (h + 1) e ≠ [] := by
 obtain ⟨k, n, d, u, l⟩ := e
 unfold textW
 split
 · simp [calcS]
 · rename_i hk
   rw [kind_mk] at hk
   have hwk : Wk (h + 1) (.mk k n d u l) := ⟨hw.1, hw.2.1⟩
   rcases hw.kinds with rfl | h | h | rfl | rfl | rfl
   · obtain ⟨_, _, _, t, ht⟩ := hwk.num
     rw [operX_num, numW, ht]
     have := plainF_ne ht
     simp [this]
   · omega
   · omega
   · rw [operX_min]; simp
   · rw [operX_max]; simp
   · rw [operX_clamp]; simp
end Go.Proofs.YtplnhjmomomphaaGreatDoor

namespace Go.Proofs.YtplnhjmomomphaaGreatDoor
set_option linter.unusedVariables false
set_option linter.unusedSimpArgs false
def spX : Vt := .mk (tok0 13 []) []
def opX (c : UInt8) : Vt := .mk (tok0 9 [c]) []
def comX : Vt := .mk (tok0 18 []) []
def numX (n d u : Int) : Vt := .mk ⟨if unitN u = [] then 10 else 12, unitN u, (n, d), d == 1, false⟩ []
/-- the values of an operand; S: of a sum -/
def cvals (S : Et → List Vt) : Nat → List Et → List Vt
 | _, [] => []
 | i, e :: r => (if i = 0 then S e else [comX, spX] ++ S e) ++ cvals S (i + 1) r
def operV (S : Et → List Vt) : Et → List Vt
 | .mk k n d u kids => if k = 1 then [numX n d u]
   else if k = 6 then [.mk (tok0 2 minS) (cvals S 0 kids)]
   else if k = 7 then [.mk (tok0 2 maxS) (cvals S 0 kids)]
   else if k = 8 then [.mk (tok0 2 clampS) (cvals S 0 kids)]
   else [.mk (tok0 21 []) (S (.mk k n d u kids))]
def pvalG (O : Et → List Vt) (t : Int) (a b : UInt8) (i : Nat) (e : Et) : List Vt := if i = 0 then O e else if e.kind = t then [spX, opX b, spX] ++ O (kid0 e) else [spX, opX a, spX] ++ O e
def pvals (O : Et → List Vt) (t : Int) (a b : UInt8) : Nat → List Et → List Vt
 | _, [] => []
 | i, e :: r => pvalG O t a b i e ++ pvals O t a b (i + 1) r
def prodV (S : Et → List Vt) (e : Et) : List Vt := if e.kind = 4 then pvals (operV S) 5 42 47 0 e.list else operV S e
def sumV : Nat → Et → List Vt
 | 0, _ => []
 | h + 1, e => if e.kind = 2 then pvals (prodV (sumV h)) 3 43 45 0 e.list else prodV (sumV h) e
def writtenV (h : Nat) (e : Et) : List Vt := if e.kind = 2 ∨ e.kind = 4 then [.mk (tok0 2 calcS) (sumV h e)] else operV (sumV h) e
/-- a text that gives tokens, whatever stands behind it: a blank, a comma, the end of a parenthesis, nothing -/
def Gives (t : List UInt8) (v : List Vt) : Prop := t.all visB = true ∧ nestV v = true ∧ ∀ R : List Int, stopC (aF R 0) → tokensF (intS t ++ R) = flatV v ++ tokensF R
theorem flat_append : ∀ a b : List Vt, flatV (a ++ b) = flatV a ++ flatV b
 | [], b => by simp [flatV]
 | .mk t k :: r, b => by
   rw [List.cons_append, flatV_cons, flatV_cons, flat_append r b]
   simp only [List.cons_append, List.append_assoc]
theorem Gives.app {a b : List UInt8} {v w : List Vt} (h1 : Gives a v) (h2 : Gives b w) (hb : ∀ R, stopC (aF R 0) → stopC (aF (intS b ++ R) 0)) : Gives (a ++ b) (v ++ w) :=
 ⟨by rw [List.all_append, h1.1, h2.1]; rfl, by rw [nest_append, h1.2.1, h2.2.1]; rfl, fun R hR => by
   rw [intS_append, List.append_assoc, h1.2.2 _ (hb R hR), h2.2.2 R hR, flat_append, List.append_assoc]⟩
/-- what stands at the beginning of an operand: no blank -/
def Starts (t : List UInt8) : Prop := ∃ c q, t = c :: q ∧ visB c = true ∧ c.toNat ≠ 32
theorem Starts.blank {t : List UInt8} (h : Starts t) (R : List Int) : blankI (aF (intS t ++ R) 0) = false := by
 obtain ⟨c, q, rfl, hv, h32⟩ := h
 rw [aF_vis hv]
 simp only [visB, Bool.and_eq_true, decide_eq_true_eq] at hv
 unfold blankI
 simp
 omega
theorem Starts.app {t : List UInt8} (h : Starts t) (b : List UInt8) : Starts (t ++ b) := by
 obtain ⟨c, q, rfl, hv, h32⟩ := h
 exact ⟨c, q ++ b, rfl, hv, h32⟩
theorem encF_one (c : UInt8) (h : visB c = true) : encF [(c.toNat : Int)] = [c] := enc_vis (b := [c]) (by simp [h])
/-- an operator with its blanks, ahead of what it joins -/
theorem gives_op {c : UInt8} (hc : c = 43 ∨ c = 45 ∨ c = 42 ∨ c = 47) {t : List UInt8} {v : List Vt} (h : Gives t v) (hs : Starts t) : Gives ([32, c, 32] ++ t) ([spX, opX c, spX] ++ v) := by
 have hv : visB c = true := by rcases hc with rfl | rfl | rfl | rfl <;> rfl
 have hci : (c.toNat : Int) = 43 ∨ (c.toNat : Int) = 45 ∨ (c.toNat : Int) = 42 ∨ (c.toNat : Int) = 47 := by rcases hc with rfl | rfl | rfl | rfl <;> decide
 refine ⟨by rw [List.all_append, h.1]; simp [hv]; rfl, by rw [nest_append, h.2.1]; rfl, fun R hR => ?_⟩
 have e : intS ([32, c, 32] ++ t) ++ R = 32 :: (c.toNat : Int) :: 32 :: (intS t ++ R) := rfl
 have hb : blankI (aF ((c.toNat : Int) :: 32 :: (intS t ++ R)) 0) = false := by
  have : aF ((c.toNat : Int) :: 32 :: (intS t ++ R)) 0 = (c.toNat : Int) := aF_vis (b := []) (R := 32 :: (intS t ++ R)) hv
  rw [this]
  rcases hci with e | e | e | e <;> rw [e] <;> rfl
 rw [e, tokens_blank hb, tokens_op hci, tokens_blank (hs.blank R), h.2.2 R hR, encF_one c hv]
 rfl
theorem stop_blank (t : List UInt8) (R : List Int) : stopC (aF (intS (32 :: t) ++ R) 0) := by
 rw [aF_vis rfl]
 exact Or.inl rfl
theorem stop_comma (t : List UInt8) (R : List Int) : stopC (aF (intS (44 :: t) ++ R) 0) := by
 rw [aF_vis rfl]
 exact Or.inr (Or.inr (Or.inl rfl))
/-- in parentheses -/
theorem gives_par {t : List UInt8} {v : List Vt} (h : Gives t v) : Gives ([40] ++ t ++ [41]) [.mk (tok0 21 []) v] := by
 refine ⟨by rw [List.all_append, List.all_append, h.1]; rfl, by rw [nestV_cons, h.2.1]; rfl, fun R hR => ?_⟩
 have e : intS ([40] ++ t ++ [41]) ++ R = (40 : Int) :: (intS t ++ ((41 : Int) :: R)) := by
  simp only [intS_append, List.append_assoc]
  rfl
 rw [e, tokens_single (k := 21) rfl rfl (by decide) (by decide), h.2.2 _ (by rw [aF_cons 41 R rfl]; exact Or.inr (Or.inl rfl)), tokens_single (k := 22) rfl rfl (by decide) (by decide), flatV_cons]
 simp only [List.cons_append, List.append_assoc]
 rfl
theorem gives_func {s t : List UInt8} {v : List Vt} (hs : smallB (intS s) = true) (hv : s.all visB = true) (h0 : s ≠ []) (hu : likeS s [117, 114, 108] = false) (h : Gives t v) : Gives (s ++ [40] ++ t ++ [41]) [.mk (tok0 2 s) v] := by
 refine ⟨by rw [List.all_append, List.all_append, List.all_append, h.1, hv]; rfl, by rw [nestV_cons, h.2.1]; rfl, fun R hR => ?_⟩
 have e : intS (s ++ [40] ++ t ++ [41]) ++ R = intS s ++ 40 :: (intS t ++ ((41 : Int) :: R)) := by
  simp only [intS_append, List.append_assoc]
  rfl
 rw [e, tokens_func hs (by simpa [intS] using h0) (by rw [enc_vis hv]; exact hu), h.2.2 _ (by rw [aF_cons 41 R rfl]; exact Or.inr (Or.inl rfl)), tokens_single (k := 22) rfl rfl (by decide) (by decide), flatV_cons, enc_vis hv]
 simp only [List.cons_append, List.append_assoc]
 rfl
theorem decD_all (n : Nat) : (Lib.decDigits n).all digB = true := by
 induction n using Nat.strongRecOn with
 | _ n ih =>
   rw [Lib.decDigits]
   split
   · rename_i h
     simp only [List.all_cons, List.all_nil, Bool.and_true, digB, Bool.and_eq_true, decide_eq_true_eq]
     constructor <;> simp <;> omega
   · rename_i h
     rw [List.all_append, ih (n / 10) (by omega)]
     simp only [List.all_cons, List.all_nil, Bool.and_true, Bool.true_and, digB, Bool.and_eq_true, decide_eq_true_eq]
     constructor <;> simp <;> omega
theorem plain_num {r : Rt} {w : Bool} {t : List UInt8} (h : plainF r w = some t) : NumT t := by
 unfold plainF at h
 split at h
 · cases h
 · split at h
   · obtain rfl := Option.some.inj h
     split
     · exact Or.inl ⟨[], ninesT, [], rfl, Or.inl rfl, by decide, by decide, Or.inl rfl⟩
     · exact Or.inr rfl
   · split at h
     · cases h
     · rename_i num k _
       split at h
       · cases h
       · obtain rfl := Option.some.inj h
         have hpd : (padF (Lib.decDigits num) k).all digB = true := by
          unfold padF
          split
          · rw [List.all_append, decD_all, Bool.and_true, List.all_replicate]
            simp [digB]
          · exact decD_all num
         have hp : k < (padF (Lib.decDigits num) k).length := by
          unfold padF
          split
          · rw [List.length_append, List.length_replicate]
            omega
          · omega
         left
         refine ⟨_, _, _, rfl, ?_, ?_, ?_, ?_⟩
         · split
           · exact Or.inr rfl
           · exact Or.inl rfl
         · intro e
           have := congrArg List.length e
           rw [List.length_take, List.length_nil] at this
           omega
         · rw [List.all_eq_true] at hpd ⊢
           exact fun c hc => hpd c (List.mem_of_mem_take hc)
         · split
           · exact Or.inl rfl
           · refine Or.inr ⟨_, rfl, ?_, ?_⟩
             · intro e
               have := congrArg List.length e
               rw [List.length_append, List.length_drop, List.length_nil] at this
               split at this
               · simp at this
               · simp at this
                 omega
             · rw [List.all_append]
               have h1 : ((padF (Lib.decDigits num) k).drop ((padF (Lib.decDigits num) k).length - k)).all digB = true := by
                rw [List.all_eq_true] at hpd ⊢
                exact fun c hc => hpd c (List.mem_of_mem_drop hc)
               rw [h1]
               split <;> rfl
theorem gives_num {n d u : Int} {t : List UInt8} (h64 : Is64 (n, d)) (ht : plainF (n, d) (d == 1) = some t) : Gives (t ++ unitN u) [numX n d u] ∧ Starts (t ++ unitN u) := by
 have hn := plain_num ht
 have hd := plain_back ht h64.1 h64.2.1 h64.2.2.2
 refine ⟨⟨by rw [List.all_append, hn.vis, (small_unit u).2.1]; rfl, ?_, fun R hR => ?_⟩, ?_⟩
 · rw [numX, nestV_cons]
   split <;> rfl
 · rw [tokens_number hn hd hR, numX, flatV_cons]
   split <;> rfl
 · refine Starts.app ?_ _
   rcases hn with ⟨S, A, F, rfl, hS, hA0, hA, _⟩ | rfl
   · match A, hA0 with
     | c :: A, _ =>
       simp only [List.all_cons, Bool.and_eq_true] at hA
       have hc : 48 ≤ c.toNat ∧ c.toNat ≤ 57 := by simpa [digB] using hA.1
       rcases hS with rfl | rfl
       · exact ⟨c, A ++ F, rfl, by unfold visB; simp; omega, by omega⟩
       · exact ⟨45, c :: (A ++ F), rfl, rfl, by decide⟩
   · exact ⟨49, [101, 57, 57], rfl, rfl, by decide⟩
/-- joined -/
theorem gives_pieces {OT : Et → List UInt8} {OV : Et → List Vt} {t : Int} {a b : UInt8} (ha : a = 43 ∨ a = 45 ∨ a = 42 ∨ a = 47) (hb : b = 43 ∨ b = 45 ∨ b = 42 ∨ b = 47) : ∀ (l : List Et) (i : Nat),
 (∀ (x : Et), l[0]? = some x → i = 0 → Gives (OT x) (OV x) ∧ Starts (OT x)) → (∀ x ∈ l, x.kind ≠ t → Gives (OT x) (OV x) ∧ Starts (OT x)) → (∀ x ∈ l, x.kind = t → Gives (OT (kid0 x)) (OV (kid0 x)) ∧ Starts (OT (kid0 x))) →
 Gives (piecesX OT t a b i l) (pvals OV t a b i l) ∧ (∀ R, 0 < i → stopC (aF R 0) → stopC (aF (intS (piecesX OT t a b i l) ++ R) 0))
 | [], _, _, _, _ => ⟨⟨rfl, rfl, fun R _ => rfl⟩, fun R _ h => h⟩
 | x :: r, i, h0, h1, h2 => by
   obtain ⟨g1, g2⟩ := gives_pieces ha hb r (i + 1) (OT := OT) (OV := OV) (t := t) (fun _ _ h => by omega) (fun y hy => h1 y (List.mem_cons_of_mem _ hy)) (fun y hy => h2 y (List.mem_cons_of_mem _ hy))
   have hp : Gives (pieceX OT t a b i x) (pvalG OV t a b i x) ∧ (0 < i → ∃ q, pieceX OT t a b i x = 32 :: q) := by
    unfold pieceX pvalG
    by_cases hi : i = 0
    · rw [if_pos hi, if_pos hi]
      exact ⟨(h0 x rfl hi).1, fun h => by omega⟩
    · rw [if_neg hi, if_neg hi]
      by_cases hk : x.kind = t
      · rw [if_pos hk, if_pos hk]
        have := h2 x List.mem_cons_self hk
        exact ⟨gives_op hb this.1 this.2, fun _ => ⟨_, rfl⟩⟩
      · rw [if_neg hk, if_neg hk]
        have := h1 x List.mem_cons_self hk
        exact ⟨gives_op ha this.1 this.2, fun _ => ⟨_, rfl⟩⟩
   refine ⟨?_, fun R hi hR => ?_⟩
   · rw [piecesX, pvals]
     exact hp.1.app g1 (fun R hR => g2 R (Nat.succ_pos i) hR)
   · obtain ⟨q, hq⟩ := hp.2 hi
     rw [piecesX, hq, List.cons_append]
     exact stop_blank _ R
theorem pieces_starts {OT : Et → List UInt8} {t : Int} {a b : UInt8} {l : List Et} {x : Et} (hx : l[0]? = some x) (h : Starts (OT x)) : Starts (piecesX OT t a b 0 l) := by
 match l, hx with
 | y :: r, hx =>
   obtain rfl := Option.some.inj hx
   rw [piecesX, pieceX, if_pos rfl]
   exact h.app _
theorem gives_comma {t : List UInt8} {v : List Vt} (h : Gives t v) (hs : Starts t) : Gives ([44, 32] ++ t) ([comX, spX] ++ v) := by
 refine ⟨by rw [List.all_append, h.1]; rfl, by rw [nest_append, h.2.1]; rfl, fun R hR => ?_⟩
 have e : intS ([44, 32] ++ t) ++ R = (44 : Int) :: 32 :: (intS t ++ R) := rfl
 rw [e, tokens_single (k := 18) rfl rfl (by decide) (by decide), tokens_blank (hs.blank R), h.2.2 R hR]
 rfl
theorem gives_commas {ST : Et → List UInt8} {SV : Et → List Vt} : ∀ (l : List Et) (i : Nat), (∀ x ∈ l, Gives (ST x) (SV x) ∧ Starts (ST x)) →
 Gives (cpieces ST i l) (cvals SV i l) ∧ (∀ R, 0 < i → stopC (aF R 0) → stopC (aF (intS (cpieces ST i l) ++ R) 0))
 | [], _, _ => ⟨⟨rfl, rfl, fun R _ => rfl⟩, fun R _ h => h⟩
 | x :: r, i, h => by
   obtain ⟨g1, g2⟩ := gives_commas r (i + 1) (ST := ST) (SV := SV) (fun y hy => h y (List.mem_cons_of_mem _ hy))
   have hx := h x List.mem_cons_self
   rw [cpieces, cvals]
   by_cases hi : i = 0
   · rw [if_pos hi, if_pos hi]
     exact ⟨hx.1.app g1 (fun R hR => g2 R (Nat.succ_pos i) hR), fun R h0 _ => by omega⟩
   · rw [if_neg hi, if_neg hi]
     exact ⟨(gives_comma hx.1 hx.2).app g1 (fun R hR => g2 R (Nat.succ_pos i) hR), fun R _ _ => stop_comma _ R⟩
theorem gives_oper {h : Nat} (ih : ∀ e, Wr h e → okE e → Gives (sumT h e) (sumV h e) ∧ Starts (sumT h e)) {e : Et} (hw : Wr (h + 1) e) (h24 : e.kind = 2 ∨ e.kind = 4 → Wr h e) (ho : okE e) :
 Gives (operX (sumT h) e) (operV (sumV h) e) ∧ Starts (operX (sumT h) e) := by
 obtain ⟨k, n, d, u, l⟩ := e
 rw [kind_mk] at h24
 have hk := hw.kinds
 have hwk : Wk (h + 1) (.mk k n d u l) := ⟨hw.1, hw.2.1⟩
 have kids : k = 6 ∨ k = 7 ∨ k = 8 → Gives (cpieces (sumT h) 0 l) (cvals (sumV h) 0 l) := fun hk => by
  refine (gives_commas l 0 fun x hx => ?_).1
  obtain ⟨j, hj⟩ := List.mem_iff_getElem?.1 hx
  rw [okE, okEs_all] at ho
  exact ih x (hwk.same (by omega) hj (fun _ => by omega) (fun _ => by omega)) (ho.2 x hx)
 rcases hk with rfl | hk | hk | rfl | rfl | rfl
 · obtain ⟨_, _, _, t, ht⟩ := hwk.num
   rw [okE] at ho
   have hT : operX (sumT h) (.mk 1 n d u l) = t ++ unitN u := by
    rw [operX_num, numW, ht]
    rfl
   have hV : operV (sumV h) (.mk 1 n d u l) = [numX n d u] := by simp [operV]
   rw [hT, hV]
   exact gives_num ho.1 ht
 · have hV : operV (sumV h) (.mk k n d u l) = [.mk (tok0 21 []) (sumV h (.mk k n d u l))] := by
    rw [operV, if_neg (by omega), if_neg (by omega), if_neg (by omega), if_neg (by omega)]
   rw [operX_par _ _ _ _ _ (Or.inl hk), hV]
   exact ⟨gives_par (ih _ (h24 (Or.inl hk)) ho).1, 40, _, rfl, rfl, by decide⟩
 · have hV : operV (sumV h) (.mk k n d u l) = [.mk (tok0 21 []) (sumV h (.mk k n d u l))] := by
    rw [operV, if_neg (by omega), if_neg (by omega), if_neg (by omega), if_neg (by omega)]
   rw [operX_par _ _ _ _ _ (Or.inr hk), hV]
   exact ⟨gives_par (ih _ (h24 (Or.inr hk)) ho).1, 40, _, rfl, rfl, by decide⟩
 · have hV : operV (sumV h) (.mk 6 n d u l) = [.mk (tok0 2 minS) (cvals (sumV h) 0 l)] := by simp [operV]
   rw [operX_min, hV]
   exact ⟨gives_func (s := minS) rfl rfl (by decide) rfl (kids (by omega)), 109, _, rfl, rfl, by decide⟩
 · have hV : operV (sumV h) (.mk 7 n d u l) = [.mk (tok0 2 maxS) (cvals (sumV h) 0 l)] := by simp [operV]
   rw [operX_max, hV]
   exact ⟨gives_func (s := maxS) rfl rfl (by decide) rfl (kids (by omega)), 109, _, rfl, rfl, by decide⟩
 · have hV : operV (sumV h) (.mk 8 n d u l) = [.mk (tok0 2 clampS) (cvals (sumV h) 0 l)] := by simp [operV]
   rw [operX_clamp, hV]
   exact ⟨gives_func (s := clampS) rfl rfl (by decide) rfl (kids (by omega)), 99, _, rfl, rfl, by decide⟩
/-- what is turned -/
theorem turned_wr {h : Nat} {x : Et} (hw : Wk h x) (hk : x.kind = 3 ∨ x.kind = 5) (ho : okE x) : Wr h (kid0 x) ∧ okE (kid0 x) := by
 obtain ⟨k, n, d, u, l⟩ := x
 cases h with
 | zero => cases hw.1
 | succ h =>
   obtain ⟨y, rfl, hy⟩ := hw.turned hk
   obtain ⟨e1, _, e3⟩ := kid0_sz (e := .mk k n d u [y]) rfl
   rw [e1]
   exact ⟨hy.more, e3 ho⟩
theorem first_of {h : Nat} {k n d u : Int} {l : List Et} (hw : Wk (h + 1) (.mk k n d u l)) (hk : k = 2 ∨ k = 4) : ∃ x, l[0]? = some x := by
 have := hw.1
 rw [shapeR_L] at this
 simp only [Bool.and_eq_true] at this
 have h2 := this.1.1
 unfold manyR at h2
 rw [if_pos hk] at h2
 simp only [decide_eq_true_eq] at h2
 match l, h2 with
 | x :: r, _ => exact ⟨x, rfl⟩
theorem gives_prod {h : Nat} (ih : ∀ e, Wr h e → okE e → Gives (sumT h e) (sumV h e) ∧ Starts (sumT h e)) {e : Et} (hw : Wr (h + 1) e) (h2 : e.kind = 2 → Wr h e) (ho : okE e) :
 Gives (prodX (sumT h) e) (prodV (sumV h) e) ∧ Starts (prodX (sumT h) e) := by
 by_cases hk : e.kind = 4
 · obtain ⟨k, n, d, u, l⟩ := e
   rw [kind_mk] at hk
   have hwk : Wk (h + 1) (.mk k n d u l) := ⟨hw.1, hw.2.1⟩
   have ho2 := ho
   rw [okE, okEs_all] at ho2
   have hV : prodV (sumV h) (.mk k n d u l) = pvals (operV (sumV h)) 5 42 47 0 l := by
    rw [prodV, kind_mk, if_pos hk]
    rfl
   rw [prodX_prod hk, join_pieces, hV]
   obtain ⟨x0, hx0⟩ := first_of hwk (Or.inr hk)
   have each : ∀ x, Wr h x → okE x → Gives (operX (sumT h) x) (operV (sumV h) x) ∧ Starts (operX (sumT h) x) := fun x hx hox => gives_oper ih hx.more (fun _ => hx) hox
   refine ⟨(gives_pieces (Or.inr (Or.inr (Or.inl rfl))) (Or.inr (Or.inr (Or.inr rfl))) l 0 (fun x hx _ => each x (hwk.first (by omega) hx) (ho2.2 x (List.mem_of_getElem? hx))) (fun x hx hx5 => ?_) (fun x hx hx5 => ?_)).1, pieces_starts hx0 (each x0 (hwk.first (by omega) hx0) (ho2.2 x0 (List.mem_of_getElem? hx0))).2⟩
   · obtain ⟨j, hj⟩ := List.mem_iff_getElem?.1 hx
     exact each x (hwk.same (by omega) hj (fun _ => by omega) (fun e => absurd e hx5)) (ho2.2 x hx)
   · obtain ⟨j, hj⟩ := List.mem_iff_getElem?.1 hx
     obtain ⟨t1, t2⟩ := turned_wr (hwk.kid (by omega) hj).1 (Or.inr hx5) (ho2.2 x hx)
     exact each _ t1 t2
 · have hV : prodV (sumV h) e = operV (sumV h) e := by rw [prodV, if_neg hk]
   rw [prodX_other hk, hV]
   exact gives_oper ih hw (fun hh => h2 (hh.resolve_right hk)) ho
theorem gives_sum : ∀ (h : Nat) (e : Et), Wr h e → okE e → Gives (sumT h e) (sumV h e) ∧ Starts (sumT h e)
 | 0, e, hw, _ => by cases hw.1
 | h + 1, e, hw, ho => by
   have ih := gives_sum h
   by_cases hk : e.kind = 2
   · obtain ⟨k, n, d, u, l⟩ := e
     rw [kind_mk] at hk
     have hwk : Wk (h + 1) (.mk k n d u l) := ⟨hw.1, hw.2.1⟩
     have ho2 := ho
     rw [okE, okEs_all] at ho2
     have hV : sumV (h + 1) (.mk k n d u l) = pvals (prodV (sumV h)) 3 43 45 0 l := by
      rw [sumV, kind_mk, if_pos hk]
      rfl
     rw [sumT_sum hk, join_pieces, hV]
     obtain ⟨x0, hx0⟩ := first_of hwk (Or.inl hk)
     have each : ∀ x, Wr h x → okE x → Gives (prodX (sumT h) x) (prodV (sumV h) x) ∧ Starts (prodX (sumT h) x) := fun x hx hox => gives_prod ih hx.more (fun _ => hx) hox
     refine ⟨(gives_pieces (Or.inl rfl) (Or.inr (Or.inl rfl)) l 0 (fun x hx _ => each x (hwk.first (by omega) hx) (ho2.2 x (List.mem_of_getElem? hx))) (fun x hx hx5 => ?_) (fun x hx hx5 => ?_)).1, pieces_starts hx0 (each x0 (hwk.first (by omega) hx0) (ho2.2 x0 (List.mem_of_getElem? hx0))).2⟩
     · obtain ⟨j, hj⟩ := List.mem_iff_getElem?.1 hx
       exact each x (hwk.same (by omega) hj (fun e => absurd e hx5) (fun _ => by omega)) (ho2.2 x hx)
     · obtain ⟨j, hj⟩ := List.mem_iff_getElem?.1 hx
       obtain ⟨t1, t2⟩ := turned_wr (hwk.kid (by omega) hj).1 (Or.inl hx5) (ho2.2 x hx)
       exact each _ t1 t2
   · have hV : sumV (h + 1) e = prodV (sumV h) e := by rw [sumV, if_neg hk]
     rw [sumT_other hk, hV]
     exact gives_prod ih hw (fun h => absurd h hk) ho
/-- THE VALUES OF A TEXT -/
theorem values_text {h : Nat} {e : Et} (hw : Wr h e) (ho : okE e) : valuesF (bytesF (textW h e)) = writtenV h e ∧ (textW h e).all visB = true := by
 have hg : Gives (textW h e) (writtenV h e) := by
  unfold textW writtenV
  by_cases hk : e.kind = 2 ∨ e.kind = 4
  · rw [if_pos hk, if_pos hk]
    exact gives_func (s := calcS) rfl rfl (by decide) rfl (gives_sum h e hw ho).1
  · rw [if_neg hk, if_neg hk]
    exact (gives_oper (gives_sum h) hw.more (fun hh => absurd hh hk) ho).1
 refine ⟨?_, hg.1⟩
 have ht := hg.2.2 [] (Or.inr (Or.inr (Or.inr rfl)))
 unfold bytesF
 rw [decode_vis hg.1, ← List.append_nil (intS (textW h e)), ht, tokens_nil, List.append_nil]
 unfold valuesF
 rw [fold_flat _ hg.2.1 zeroTk [] []]
 simp [closeV]
end Go.Proofs.YtplnhjmomomphaaGreatDoor
