/- Of my texts: TokO, TokP, BackM. -/
import Derived.Test.YtplnhjmomomphaaGreatDoorM14
namespace Go.Proofs.YtplnhjmomomphaaGreatDoor
set_option linter.unusedVariables false
set_option linter.unusedSimpArgs false
open Go.RowKit
/-- the kinds of what is told by one character -/
def kindsL : List Int := [21, 22, 19, 20, 23, 24, 18, 16, 17]
def Kd (w : World) : Prop := 0 < w.heap.size ∧ ∀ (j : Nat) (k : Int), kindsL[j]? = some k → w.cell? ⟨0, j, none⟩ = some (.int .i64 k)
theorem Kd.below {w w' : World} (h : Kd w) (hb : Below w.heap.size w w') : Kd w' :=
 ⟨Nat.lt_of_lt_of_le h.1 hb.size, fun j k hk => (hb.cell (p := ⟨0, j, none⟩) h.1).trans (h.2 j k hk)⟩
theorem Kd.grown {w w' : World} {row : Option Nat} (h : Kd w) (hg : w.grownBy w' row) (hr : some 0 ≠ row) : Kd w' :=
 ⟨Nat.lt_of_lt_of_le h.1 hg.size, fun j k hk => by
   rw [← h.2 j k hk]
   simp only [World.cell?]
   rw [hg.block _ h.1 hr]⟩
def litL : List Int := [40, 41, 91, 93, 123, 125, 44, 58, 59]
theorem single_none {c : Int} (h : ∀ (j : Nat) (x : Int), litL[j]? = some x → c ≠ x) : singleF c = none := by
 unfold singleF
 rw [if_neg (h 0 40 rfl)]
 rw [if_neg (h 1 41 rfl)]
 rw [if_neg (h 2 91 rfl)]
 rw [if_neg (h 3 93 rfl)]
 rw [if_neg (h 4 123 rfl)]
 rw [if_neg (h 5 125 rfl)]
 rw [if_neg (h 6 44 rfl)]
 rw [if_neg (h 7 58 rfl)]
 rw [if_neg (h 8 59 rfl)]
set_option maxRecDepth 20000 in
set_option maxHeartbeats 16000000 in
theorem next_any {w : World} {B : Nat} {oa : Option Addr} {cap b o : Nat} {l : List Int} {i : Nat} (h : RAt w B oa cap b o l i) (hK : Kd w) (hKB : 0 ≠ B) (hc0 : aF l i ≠ -1) (hfig : figE l i ≤ i + 4294967296) :
 Calls Tryz.prog 62 #[.pointer (some ⟨B, 0, none⟩)] w fun e w' => e = .returned (tv (nextF l i).1) ∧ Moved w w' B oa cap b o l (nextF l i).2 := by
 have hil := aF_lt hc0
 have hl := h.len
 have hB := h.blk.lt
 have HR := Lib.hid h
 obtain ⟨R, hR⟩ : ∃ R, nextF l i = R := ⟨_, rfl⟩
 rw [hR]
 unfold nextF at hR
 obtain ⟨r0, hr0⟩ : ∃ r0, w.heap.size = r0 := ⟨_, rfl⟩
 have hBr : B < r0 := by omega
 have hKr0 : 0 ≠ r0 := by have := hK.1; omega
 have HK := Lib.hid hK
 obtain ⟨c, hc⟩ : ∃ x, aF l i = x := ⟨_, rfl⟩
 obtain ⟨d, hd⟩ : ∃ x, aF l (i + 1) = x := ⟨_, rfl⟩
 obtain ⟨e, he⟩ : ∃ x, aF l (i + 2) = x := ⟨_, rfl⟩
 obtain ⟨f, hf⟩ : ∃ x, aF l (i + 3) = x := ⟨_, rfl⟩
 rw [hc] at hc0
 rw [hc, hd, he, hf] at hR
 have HG := Lib.hid hR
 have HC := Lib.hid hc
 have HD := Lib.hid hd
 have HE := Lib.hid he
 have HF := Lib.hid hf
 clear h hR hK hc hd he hf
 go_enter Tryz.func62, Tryz.ntmps62
 go_upto_region 1 with fail
 have HR1 := Lib.hid (HR.out.old (.cells #[.int .i64 0, .string ⟨#[]⟩, .int .i64 0, .int .i64 0, .bool false, .bool false] 42))
 have hT := Blk.new w 42 #[.int .i64 0, .string ⟨#[]⟩, .int .i64 0, .int .i64 0, .bool false, .bool false]
 have HW := Lib.hid ((Moved.start HR.out).alloc (.cells #[.int .i64 0, .string ⟨#[]⟩, .int .i64 0, .int .i64 0, .bool false, .bool false] 42))
 have HK1 := Lib.hid (HK.out.below ((Below.refl _ _).alloc (Nat.le_refl _) (.cells #[.int .i64 0, .string ⟨#[]⟩, .int .i64 0, .int .i64 0, .bool false, .bool false] 42)))
 rw [hr0] at hT
 have HT := Lib.hid hT
 clear hT HK
 generalize w.alloc _ = w1 at *
 have HM0 := Lib.hid (Moved.start HR1.out)
 have hA := at0_any HM0.out.rd
 rw [HC.out] at hA
 have HA := Lib.hid hA
 clear hA
 go_wp2_with fail
 ((with_reducible refine (HA.out).mono ?_); rintro e w' ⟨rfl, hbw⟩)
 obtain ⟨m0, rfl⟩ := grow_mk hbw
 clear hbw
 have HM1 := Lib.hid (HM0.out.grow m0)
 clear HM0 HA
 generalize grow _ m0 = wa0 at *
 have hA := at1_any HM1.out.rd
 rw [HD.out] at hA
 have HA := Lib.hid hA
 clear hA
 go_wp2_with fail
 ((with_reducible refine (HA.out).mono ?_); rintro e w' ⟨rfl, hbw⟩)
 obtain ⟨m1, rfl⟩ := grow_mk hbw
 clear hbw
 have HM2 := Lib.hid (HM1.out.grow m1)
 clear HM1 HA
 generalize grow _ m1 = wa1 at *
 have hA := at2_any HM2.out.rd
 rw [HE.out] at hA
 have HA := Lib.hid hA
 clear hA
 go_wp2_with fail
 ((with_reducible refine (HA.out).mono ?_); rintro e w' ⟨rfl, hbw⟩)
 obtain ⟨m2, rfl⟩ := grow_mk hbw
 clear hbw
 have HM3 := Lib.hid (HM2.out.grow m2)
 clear HM2 HA
 generalize grow _ m2 = wa2 at *
 go_wp2_with fail
 go_loopg [14] 9 (fun q s14 wr => ∃ (k : Nat), s14 = .int .i64 k ∧ k ≤ 9 ∧ Hid (∀ (j : Nat) (x : Int), j < k → litL[j]? = some x → c ≠ x) ∧ wr = wa2 ∧ 9 - k ≤ q)
 case atStart => exact ⟨0, rfl, by omega, Lib.hid (fun j x hj => absurd hj (Nat.not_lt_zero _)), rfl, by omega⟩
 case round =>
  obtain ⟨k, rfl, hk9, hno, rfl, hq⟩ := hrel
  by_cases hk : k < 9
  · have ways : k = 0 ∨ k = 1 ∨ k = 2 ∨ k = 3 ∨ k = 4 ∨ k = 5 ∨ k = 6 ∨ k = 7 ∨ k = 8 := by omega
    rcases ways with rfl | rfl | rfl | rfl | rfl | rfl | rfl | rfl | rfl
    · by_cases hx : c = 40
      · subst hx
        have HG3 := Lib.hid (show R = (tok0 21 [], i + 1) from HG.out.symm)
        have hset : Moved w1 (wr.setCell ⟨B, 1, none⟩ (.int .i64 ((i : Int) + 1))) B oa cap b o l (i + 1) := by have := HM3.out.set (j := i + 1) (by omega); simpa using this
        have HS := Lib.hid hset
        have hblk := HM3.out.rd.blk
        have cr0 : wr.cell? ⟨B, 0, none⟩ = some (.slice oa l.length cap) := (hblk).cell 0
        have fcr0 := (hblk).frozen 0
        have cr1 : wr.cell? ⟨B, 1, none⟩ = some (.int .i64 (i : Int)) := (hblk).cell 1
        have fcr1 := (hblk).frozen 1
        have lcr := (hblk).lt
        clear hblk hset
        have hTz := HT.out.mvd HS.out (by omega)
        have hTl := hTz.lt
        have hKc := ((HK1.out.grown HM3.out.gb (by simpa using hKB)).2 0 _ rfl)
        have hKl := (HK1.out.grown HM3.out.gb (by simpa using hKB)).1
        have hTy := HT.out.mvd HM3.out (by omega)
        have ct0 : wr.cell? ⟨r0, 0, none⟩ = some (.int .i64 0) := (hTy).cell 0
        have fct0 := (hTy).frozen 0
        have ct1 : wr.cell? ⟨r0, 1, none⟩ = some (.string ⟨#[]⟩) := (hTy).cell 1
        have fct1 := (hTy).frozen 1
        have ct2 : wr.cell? ⟨r0, 2, none⟩ = some (.int .i64 0) := (hTy).cell 2
        have fct2 := (hTy).frozen 2
        have ct3 : wr.cell? ⟨r0, 3, none⟩ = some (.int .i64 0) := (hTy).cell 3
        have fct3 := (hTy).frozen 3
        have ct4 : wr.cell? ⟨r0, 4, none⟩ = some (.bool false) := (hTy).cell 4
        have fct4 := (hTy).frozen 4
        have ct5 : wr.cell? ⟨r0, 5, none⟩ = some (.bool false) := (hTy).cell 5
        have fct5 := (hTy).frozen 5
        have lct := (hTy).lt
        clear HG HM3 hTz hno hTy
        go_wp2_with fail
        exact bodyPost_ret (v := tv (tok0 21 [])) (by simp [results, Tryz.results62, go_sem, ct0, ct1, ct2, ct3, ct4, ct5, lct, tv, tok0]) rfl ⟨by rw [HG3.out], by
         have h0 := HW.out.next HS.out
         rw [HG3.out]
         show Moved w _ B oa cap b o l (i + 1)
         repeat (first | with_reducible exact h0 | (with_reducible refine Moved.far ?_ HR.out _ _ ?hq; case hq => (show w.heap.size ≤ r0; omega)))⟩
      · have gx : ((40 : Int) == c) = false := by rw [beq_eq_false_iff_ne]; exact fun e => hx e.symm
        clear HG
        go_wp2_with fail
        go_roundg (9 - 1)
        case measure => omega
        case rel => exact ⟨1, rfl, by omega, Lib.hid (fun j x hj hx2 => by
         by_cases hj2 : j = 0
         · subst hj2; cases hx2; exact hx
         · exact hno.out j x (by omega) hx2), rfl, by omega⟩
    · by_cases hx : c = 41
      · subst hx
        have HG3 := Lib.hid (show R = (tok0 22 [], i + 1) from HG.out.symm)
        have hset : Moved w1 (wr.setCell ⟨B, 1, none⟩ (.int .i64 ((i : Int) + 1))) B oa cap b o l (i + 1) := by have := HM3.out.set (j := i + 1) (by omega); simpa using this
        have HS := Lib.hid hset
        have hblk := HM3.out.rd.blk
        have cr0 : wr.cell? ⟨B, 0, none⟩ = some (.slice oa l.length cap) := (hblk).cell 0
        have fcr0 := (hblk).frozen 0
        have cr1 : wr.cell? ⟨B, 1, none⟩ = some (.int .i64 (i : Int)) := (hblk).cell 1
        have fcr1 := (hblk).frozen 1
        have lcr := (hblk).lt
        clear hblk hset
        have hTz := HT.out.mvd HS.out (by omega)
        have hTl := hTz.lt
        have hKc := ((HK1.out.grown HM3.out.gb (by simpa using hKB)).2 1 _ rfl)
        have hKl := (HK1.out.grown HM3.out.gb (by simpa using hKB)).1
        have hTy := HT.out.mvd HM3.out (by omega)
        have ct0 : wr.cell? ⟨r0, 0, none⟩ = some (.int .i64 0) := (hTy).cell 0
        have fct0 := (hTy).frozen 0
        have ct1 : wr.cell? ⟨r0, 1, none⟩ = some (.string ⟨#[]⟩) := (hTy).cell 1
        have fct1 := (hTy).frozen 1
        have ct2 : wr.cell? ⟨r0, 2, none⟩ = some (.int .i64 0) := (hTy).cell 2
        have fct2 := (hTy).frozen 2
        have ct3 : wr.cell? ⟨r0, 3, none⟩ = some (.int .i64 0) := (hTy).cell 3
        have fct3 := (hTy).frozen 3
        have ct4 : wr.cell? ⟨r0, 4, none⟩ = some (.bool false) := (hTy).cell 4
        have fct4 := (hTy).frozen 4
        have ct5 : wr.cell? ⟨r0, 5, none⟩ = some (.bool false) := (hTy).cell 5
        have fct5 := (hTy).frozen 5
        have lct := (hTy).lt
        clear HG HM3 hTz hno hTy
        go_wp2_with fail
        exact bodyPost_ret (v := tv (tok0 22 [])) (by simp [results, Tryz.results62, go_sem, ct0, ct1, ct2, ct3, ct4, ct5, lct, tv, tok0]) rfl ⟨by rw [HG3.out], by
         have h0 := HW.out.next HS.out
         rw [HG3.out]
         show Moved w _ B oa cap b o l (i + 1)
         repeat (first | with_reducible exact h0 | (with_reducible refine Moved.far ?_ HR.out _ _ ?hq; case hq => (show w.heap.size ≤ r0; omega)))⟩
      · have gx : ((41 : Int) == c) = false := by rw [beq_eq_false_iff_ne]; exact fun e => hx e.symm
        clear HG
        go_wp2_with fail
        go_roundg (9 - 2)
        case measure => omega
        case rel => exact ⟨2, rfl, by omega, Lib.hid (fun j x hj hx2 => by
         by_cases hj2 : j = 1
         · subst hj2; cases hx2; exact hx
         · exact hno.out j x (by omega) hx2), rfl, by omega⟩
    · by_cases hx : c = 91
      · subst hx
        have HG3 := Lib.hid (show R = (tok0 19 [], i + 1) from HG.out.symm)
        have hset : Moved w1 (wr.setCell ⟨B, 1, none⟩ (.int .i64 ((i : Int) + 1))) B oa cap b o l (i + 1) := by have := HM3.out.set (j := i + 1) (by omega); simpa using this
        have HS := Lib.hid hset
        have hblk := HM3.out.rd.blk
        have cr0 : wr.cell? ⟨B, 0, none⟩ = some (.slice oa l.length cap) := (hblk).cell 0
        have fcr0 := (hblk).frozen 0
        have cr1 : wr.cell? ⟨B, 1, none⟩ = some (.int .i64 (i : Int)) := (hblk).cell 1
        have fcr1 := (hblk).frozen 1
        have lcr := (hblk).lt
        clear hblk hset
        have hTz := HT.out.mvd HS.out (by omega)
        have hTl := hTz.lt
        have hKc := ((HK1.out.grown HM3.out.gb (by simpa using hKB)).2 2 _ rfl)
        have hKl := (HK1.out.grown HM3.out.gb (by simpa using hKB)).1
        have hTy := HT.out.mvd HM3.out (by omega)
        have ct0 : wr.cell? ⟨r0, 0, none⟩ = some (.int .i64 0) := (hTy).cell 0
        have fct0 := (hTy).frozen 0
        have ct1 : wr.cell? ⟨r0, 1, none⟩ = some (.string ⟨#[]⟩) := (hTy).cell 1
        have fct1 := (hTy).frozen 1
        have ct2 : wr.cell? ⟨r0, 2, none⟩ = some (.int .i64 0) := (hTy).cell 2
        have fct2 := (hTy).frozen 2
        have ct3 : wr.cell? ⟨r0, 3, none⟩ = some (.int .i64 0) := (hTy).cell 3
        have fct3 := (hTy).frozen 3
        have ct4 : wr.cell? ⟨r0, 4, none⟩ = some (.bool false) := (hTy).cell 4
        have fct4 := (hTy).frozen 4
        have ct5 : wr.cell? ⟨r0, 5, none⟩ = some (.bool false) := (hTy).cell 5
        have fct5 := (hTy).frozen 5
        have lct := (hTy).lt
        clear HG HM3 hTz hno hTy
        go_wp2_with fail
        exact bodyPost_ret (v := tv (tok0 19 [])) (by simp [results, Tryz.results62, go_sem, ct0, ct1, ct2, ct3, ct4, ct5, lct, tv, tok0]) rfl ⟨by rw [HG3.out], by
         have h0 := HW.out.next HS.out
         rw [HG3.out]
         show Moved w _ B oa cap b o l (i + 1)
         repeat (first | with_reducible exact h0 | (with_reducible refine Moved.far ?_ HR.out _ _ ?hq; case hq => (show w.heap.size ≤ r0; omega)))⟩
      · have gx : ((91 : Int) == c) = false := by rw [beq_eq_false_iff_ne]; exact fun e => hx e.symm
        clear HG
        go_wp2_with fail
        go_roundg (9 - 3)
        case measure => omega
        case rel => exact ⟨3, rfl, by omega, Lib.hid (fun j x hj hx2 => by
         by_cases hj2 : j = 2
         · subst hj2; cases hx2; exact hx
         · exact hno.out j x (by omega) hx2), rfl, by omega⟩
    · by_cases hx : c = 93
      · subst hx
        have HG3 := Lib.hid (show R = (tok0 20 [], i + 1) from HG.out.symm)
        have hset : Moved w1 (wr.setCell ⟨B, 1, none⟩ (.int .i64 ((i : Int) + 1))) B oa cap b o l (i + 1) := by have := HM3.out.set (j := i + 1) (by omega); simpa using this
        have HS := Lib.hid hset
        have hblk := HM3.out.rd.blk
        have cr0 : wr.cell? ⟨B, 0, none⟩ = some (.slice oa l.length cap) := (hblk).cell 0
        have fcr0 := (hblk).frozen 0
        have cr1 : wr.cell? ⟨B, 1, none⟩ = some (.int .i64 (i : Int)) := (hblk).cell 1
        have fcr1 := (hblk).frozen 1
        have lcr := (hblk).lt
        clear hblk hset
        have hTz := HT.out.mvd HS.out (by omega)
        have hTl := hTz.lt
        have hKc := ((HK1.out.grown HM3.out.gb (by simpa using hKB)).2 3 _ rfl)
        have hKl := (HK1.out.grown HM3.out.gb (by simpa using hKB)).1
        have hTy := HT.out.mvd HM3.out (by omega)
        have ct0 : wr.cell? ⟨r0, 0, none⟩ = some (.int .i64 0) := (hTy).cell 0
        have fct0 := (hTy).frozen 0
        have ct1 : wr.cell? ⟨r0, 1, none⟩ = some (.string ⟨#[]⟩) := (hTy).cell 1
        have fct1 := (hTy).frozen 1
        have ct2 : wr.cell? ⟨r0, 2, none⟩ = some (.int .i64 0) := (hTy).cell 2
        have fct2 := (hTy).frozen 2
        have ct3 : wr.cell? ⟨r0, 3, none⟩ = some (.int .i64 0) := (hTy).cell 3
        have fct3 := (hTy).frozen 3
        have ct4 : wr.cell? ⟨r0, 4, none⟩ = some (.bool false) := (hTy).cell 4
        have fct4 := (hTy).frozen 4
        have ct5 : wr.cell? ⟨r0, 5, none⟩ = some (.bool false) := (hTy).cell 5
        have fct5 := (hTy).frozen 5
        have lct := (hTy).lt
        clear HG HM3 hTz hno hTy
        go_wp2_with fail
        exact bodyPost_ret (v := tv (tok0 20 [])) (by simp [results, Tryz.results62, go_sem, ct0, ct1, ct2, ct3, ct4, ct5, lct, tv, tok0]) rfl ⟨by rw [HG3.out], by
         have h0 := HW.out.next HS.out
         rw [HG3.out]
         show Moved w _ B oa cap b o l (i + 1)
         repeat (first | with_reducible exact h0 | (with_reducible refine Moved.far ?_ HR.out _ _ ?hq; case hq => (show w.heap.size ≤ r0; omega)))⟩
      · have gx : ((93 : Int) == c) = false := by rw [beq_eq_false_iff_ne]; exact fun e => hx e.symm
        clear HG
        go_wp2_with fail
        go_roundg (9 - 4)
        case measure => omega
        case rel => exact ⟨4, rfl, by omega, Lib.hid (fun j x hj hx2 => by
         by_cases hj2 : j = 3
         · subst hj2; cases hx2; exact hx
         · exact hno.out j x (by omega) hx2), rfl, by omega⟩
    · by_cases hx : c = 123
      · subst hx
        have HG3 := Lib.hid (show R = (tok0 23 [], i + 1) from HG.out.symm)
        have hset : Moved w1 (wr.setCell ⟨B, 1, none⟩ (.int .i64 ((i : Int) + 1))) B oa cap b o l (i + 1) := by have := HM3.out.set (j := i + 1) (by omega); simpa using this
        have HS := Lib.hid hset
        have hblk := HM3.out.rd.blk
        have cr0 : wr.cell? ⟨B, 0, none⟩ = some (.slice oa l.length cap) := (hblk).cell 0
        have fcr0 := (hblk).frozen 0
        have cr1 : wr.cell? ⟨B, 1, none⟩ = some (.int .i64 (i : Int)) := (hblk).cell 1
        have fcr1 := (hblk).frozen 1
        have lcr := (hblk).lt
        clear hblk hset
        have hTz := HT.out.mvd HS.out (by omega)
        have hTl := hTz.lt
        have hKc := ((HK1.out.grown HM3.out.gb (by simpa using hKB)).2 4 _ rfl)
        have hKl := (HK1.out.grown HM3.out.gb (by simpa using hKB)).1
        have hTy := HT.out.mvd HM3.out (by omega)
        have ct0 : wr.cell? ⟨r0, 0, none⟩ = some (.int .i64 0) := (hTy).cell 0
        have fct0 := (hTy).frozen 0
        have ct1 : wr.cell? ⟨r0, 1, none⟩ = some (.string ⟨#[]⟩) := (hTy).cell 1
        have fct1 := (hTy).frozen 1
        have ct2 : wr.cell? ⟨r0, 2, none⟩ = some (.int .i64 0) := (hTy).cell 2
        have fct2 := (hTy).frozen 2
        have ct3 : wr.cell? ⟨r0, 3, none⟩ = some (.int .i64 0) := (hTy).cell 3
        have fct3 := (hTy).frozen 3
        have ct4 : wr.cell? ⟨r0, 4, none⟩ = some (.bool false) := (hTy).cell 4
        have fct4 := (hTy).frozen 4
        have ct5 : wr.cell? ⟨r0, 5, none⟩ = some (.bool false) := (hTy).cell 5
        have fct5 := (hTy).frozen 5
        have lct := (hTy).lt
        clear HG HM3 hTz hno hTy
        go_wp2_with fail
        exact bodyPost_ret (v := tv (tok0 23 [])) (by simp [results, Tryz.results62, go_sem, ct0, ct1, ct2, ct3, ct4, ct5, lct, tv, tok0]) rfl ⟨by rw [HG3.out], by
         have h0 := HW.out.next HS.out
         rw [HG3.out]
         show Moved w _ B oa cap b o l (i + 1)
         repeat (first | with_reducible exact h0 | (with_reducible refine Moved.far ?_ HR.out _ _ ?hq; case hq => (show w.heap.size ≤ r0; omega)))⟩
      · have gx : ((123 : Int) == c) = false := by rw [beq_eq_false_iff_ne]; exact fun e => hx e.symm
        clear HG
        go_wp2_with fail
        go_roundg (9 - 5)
        case measure => omega
        case rel => exact ⟨5, rfl, by omega, Lib.hid (fun j x hj hx2 => by
         by_cases hj2 : j = 4
         · subst hj2; cases hx2; exact hx
         · exact hno.out j x (by omega) hx2), rfl, by omega⟩
    · by_cases hx : c = 125
      · subst hx
        have HG3 := Lib.hid (show R = (tok0 24 [], i + 1) from HG.out.symm)
        have hset : Moved w1 (wr.setCell ⟨B, 1, none⟩ (.int .i64 ((i : Int) + 1))) B oa cap b o l (i + 1) := by have := HM3.out.set (j := i + 1) (by omega); simpa using this
        have HS := Lib.hid hset
        have hblk := HM3.out.rd.blk
        have cr0 : wr.cell? ⟨B, 0, none⟩ = some (.slice oa l.length cap) := (hblk).cell 0
        have fcr0 := (hblk).frozen 0
        have cr1 : wr.cell? ⟨B, 1, none⟩ = some (.int .i64 (i : Int)) := (hblk).cell 1
        have fcr1 := (hblk).frozen 1
        have lcr := (hblk).lt
        clear hblk hset
        have hTz := HT.out.mvd HS.out (by omega)
        have hTl := hTz.lt
        have hKc := ((HK1.out.grown HM3.out.gb (by simpa using hKB)).2 5 _ rfl)
        have hKl := (HK1.out.grown HM3.out.gb (by simpa using hKB)).1
        have hTy := HT.out.mvd HM3.out (by omega)
        have ct0 : wr.cell? ⟨r0, 0, none⟩ = some (.int .i64 0) := (hTy).cell 0
        have fct0 := (hTy).frozen 0
        have ct1 : wr.cell? ⟨r0, 1, none⟩ = some (.string ⟨#[]⟩) := (hTy).cell 1
        have fct1 := (hTy).frozen 1
        have ct2 : wr.cell? ⟨r0, 2, none⟩ = some (.int .i64 0) := (hTy).cell 2
        have fct2 := (hTy).frozen 2
        have ct3 : wr.cell? ⟨r0, 3, none⟩ = some (.int .i64 0) := (hTy).cell 3
        have fct3 := (hTy).frozen 3
        have ct4 : wr.cell? ⟨r0, 4, none⟩ = some (.bool false) := (hTy).cell 4
        have fct4 := (hTy).frozen 4
        have ct5 : wr.cell? ⟨r0, 5, none⟩ = some (.bool false) := (hTy).cell 5
        have fct5 := (hTy).frozen 5
        have lct := (hTy).lt
        clear HG HM3 hTz hno hTy
        go_wp2_with fail
        exact bodyPost_ret (v := tv (tok0 24 [])) (by simp [results, Tryz.results62, go_sem, ct0, ct1, ct2, ct3, ct4, ct5, lct, tv, tok0]) rfl ⟨by rw [HG3.out], by
         have h0 := HW.out.next HS.out
         rw [HG3.out]
         show Moved w _ B oa cap b o l (i + 1)
         repeat (first | with_reducible exact h0 | (with_reducible refine Moved.far ?_ HR.out _ _ ?hq; case hq => (show w.heap.size ≤ r0; omega)))⟩
      · have gx : ((125 : Int) == c) = false := by rw [beq_eq_false_iff_ne]; exact fun e => hx e.symm
        clear HG
        go_wp2_with fail
        go_roundg (9 - 6)
        case measure => omega
        case rel => exact ⟨6, rfl, by omega, Lib.hid (fun j x hj hx2 => by
         by_cases hj2 : j = 5
         · subst hj2; cases hx2; exact hx
         · exact hno.out j x (by omega) hx2), rfl, by omega⟩
    · by_cases hx : c = 44
      · subst hx
        have HG3 := Lib.hid (show R = (tok0 18 [], i + 1) from HG.out.symm)
        have hset : Moved w1 (wr.setCell ⟨B, 1, none⟩ (.int .i64 ((i : Int) + 1))) B oa cap b o l (i + 1) := by have := HM3.out.set (j := i + 1) (by omega); simpa using this
        have HS := Lib.hid hset
        have hblk := HM3.out.rd.blk
        have cr0 : wr.cell? ⟨B, 0, none⟩ = some (.slice oa l.length cap) := (hblk).cell 0
        have fcr0 := (hblk).frozen 0
        have cr1 : wr.cell? ⟨B, 1, none⟩ = some (.int .i64 (i : Int)) := (hblk).cell 1
        have fcr1 := (hblk).frozen 1
        have lcr := (hblk).lt
        clear hblk hset
        have hTz := HT.out.mvd HS.out (by omega)
        have hTl := hTz.lt
        have hKc := ((HK1.out.grown HM3.out.gb (by simpa using hKB)).2 6 _ rfl)
        have hKl := (HK1.out.grown HM3.out.gb (by simpa using hKB)).1
        have hTy := HT.out.mvd HM3.out (by omega)
        have ct0 : wr.cell? ⟨r0, 0, none⟩ = some (.int .i64 0) := (hTy).cell 0
        have fct0 := (hTy).frozen 0
        have ct1 : wr.cell? ⟨r0, 1, none⟩ = some (.string ⟨#[]⟩) := (hTy).cell 1
        have fct1 := (hTy).frozen 1
        have ct2 : wr.cell? ⟨r0, 2, none⟩ = some (.int .i64 0) := (hTy).cell 2
        have fct2 := (hTy).frozen 2
        have ct3 : wr.cell? ⟨r0, 3, none⟩ = some (.int .i64 0) := (hTy).cell 3
        have fct3 := (hTy).frozen 3
        have ct4 : wr.cell? ⟨r0, 4, none⟩ = some (.bool false) := (hTy).cell 4
        have fct4 := (hTy).frozen 4
        have ct5 : wr.cell? ⟨r0, 5, none⟩ = some (.bool false) := (hTy).cell 5
        have fct5 := (hTy).frozen 5
        have lct := (hTy).lt
        clear HG HM3 hTz hno hTy
        go_wp2_with fail
        exact bodyPost_ret (v := tv (tok0 18 [])) (by simp [results, Tryz.results62, go_sem, ct0, ct1, ct2, ct3, ct4, ct5, lct, tv, tok0]) rfl ⟨by rw [HG3.out], by
         have h0 := HW.out.next HS.out
         rw [HG3.out]
         show Moved w _ B oa cap b o l (i + 1)
         repeat (first | with_reducible exact h0 | (with_reducible refine Moved.far ?_ HR.out _ _ ?hq; case hq => (show w.heap.size ≤ r0; omega)))⟩
      · have gx : ((44 : Int) == c) = false := by rw [beq_eq_false_iff_ne]; exact fun e => hx e.symm
        clear HG
        go_wp2_with fail
        go_roundg (9 - 7)
        case measure => omega
        case rel => exact ⟨7, rfl, by omega, Lib.hid (fun j x hj hx2 => by
         by_cases hj2 : j = 6
         · subst hj2; cases hx2; exact hx
         · exact hno.out j x (by omega) hx2), rfl, by omega⟩
    · by_cases hx : c = 58
      · subst hx
        have HG3 := Lib.hid (show R = (tok0 16 [], i + 1) from HG.out.symm)
        have hset : Moved w1 (wr.setCell ⟨B, 1, none⟩ (.int .i64 ((i : Int) + 1))) B oa cap b o l (i + 1) := by have := HM3.out.set (j := i + 1) (by omega); simpa using this
        have HS := Lib.hid hset
        have hblk := HM3.out.rd.blk
        have cr0 : wr.cell? ⟨B, 0, none⟩ = some (.slice oa l.length cap) := (hblk).cell 0
        have fcr0 := (hblk).frozen 0
        have cr1 : wr.cell? ⟨B, 1, none⟩ = some (.int .i64 (i : Int)) := (hblk).cell 1
        have fcr1 := (hblk).frozen 1
        have lcr := (hblk).lt
        clear hblk hset
        have hTz := HT.out.mvd HS.out (by omega)
        have hTl := hTz.lt
        have hKc := ((HK1.out.grown HM3.out.gb (by simpa using hKB)).2 7 _ rfl)
        have hKl := (HK1.out.grown HM3.out.gb (by simpa using hKB)).1
        have hTy := HT.out.mvd HM3.out (by omega)
        have ct0 : wr.cell? ⟨r0, 0, none⟩ = some (.int .i64 0) := (hTy).cell 0
        have fct0 := (hTy).frozen 0
        have ct1 : wr.cell? ⟨r0, 1, none⟩ = some (.string ⟨#[]⟩) := (hTy).cell 1
        have fct1 := (hTy).frozen 1
        have ct2 : wr.cell? ⟨r0, 2, none⟩ = some (.int .i64 0) := (hTy).cell 2
        have fct2 := (hTy).frozen 2
        have ct3 : wr.cell? ⟨r0, 3, none⟩ = some (.int .i64 0) := (hTy).cell 3
        have fct3 := (hTy).frozen 3
        have ct4 : wr.cell? ⟨r0, 4, none⟩ = some (.bool false) := (hTy).cell 4
        have fct4 := (hTy).frozen 4
        have ct5 : wr.cell? ⟨r0, 5, none⟩ = some (.bool false) := (hTy).cell 5
        have fct5 := (hTy).frozen 5
        have lct := (hTy).lt
        clear HG HM3 hTz hno hTy
        go_wp2_with fail
        exact bodyPost_ret (v := tv (tok0 16 [])) (by simp [results, Tryz.results62, go_sem, ct0, ct1, ct2, ct3, ct4, ct5, lct, tv, tok0]) rfl ⟨by rw [HG3.out], by
         have h0 := HW.out.next HS.out
         rw [HG3.out]
         show Moved w _ B oa cap b o l (i + 1)
         repeat (first | with_reducible exact h0 | (with_reducible refine Moved.far ?_ HR.out _ _ ?hq; case hq => (show w.heap.size ≤ r0; omega)))⟩
      · have gx : ((58 : Int) == c) = false := by rw [beq_eq_false_iff_ne]; exact fun e => hx e.symm
        clear HG
        go_wp2_with fail
        go_roundg (9 - 8)
        case measure => omega
        case rel => exact ⟨8, rfl, by omega, Lib.hid (fun j x hj hx2 => by
         by_cases hj2 : j = 7
         · subst hj2; cases hx2; exact hx
         · exact hno.out j x (by omega) hx2), rfl, by omega⟩
    · by_cases hx : c = 59
      · subst hx
        have HG3 := Lib.hid (show R = (tok0 17 [], i + 1) from HG.out.symm)
        have hset : Moved w1 (wr.setCell ⟨B, 1, none⟩ (.int .i64 ((i : Int) + 1))) B oa cap b o l (i + 1) := by have := HM3.out.set (j := i + 1) (by omega); simpa using this
        have HS := Lib.hid hset
        have hblk := HM3.out.rd.blk
        have cr0 : wr.cell? ⟨B, 0, none⟩ = some (.slice oa l.length cap) := (hblk).cell 0
        have fcr0 := (hblk).frozen 0
        have cr1 : wr.cell? ⟨B, 1, none⟩ = some (.int .i64 (i : Int)) := (hblk).cell 1
        have fcr1 := (hblk).frozen 1
        have lcr := (hblk).lt
        clear hblk hset
        have hTz := HT.out.mvd HS.out (by omega)
        have hTl := hTz.lt
        have hKc := ((HK1.out.grown HM3.out.gb (by simpa using hKB)).2 8 _ rfl)
        have hKl := (HK1.out.grown HM3.out.gb (by simpa using hKB)).1
        have hTy := HT.out.mvd HM3.out (by omega)
        have ct0 : wr.cell? ⟨r0, 0, none⟩ = some (.int .i64 0) := (hTy).cell 0
        have fct0 := (hTy).frozen 0
        have ct1 : wr.cell? ⟨r0, 1, none⟩ = some (.string ⟨#[]⟩) := (hTy).cell 1
        have fct1 := (hTy).frozen 1
        have ct2 : wr.cell? ⟨r0, 2, none⟩ = some (.int .i64 0) := (hTy).cell 2
        have fct2 := (hTy).frozen 2
        have ct3 : wr.cell? ⟨r0, 3, none⟩ = some (.int .i64 0) := (hTy).cell 3
        have fct3 := (hTy).frozen 3
        have ct4 : wr.cell? ⟨r0, 4, none⟩ = some (.bool false) := (hTy).cell 4
        have fct4 := (hTy).frozen 4
        have ct5 : wr.cell? ⟨r0, 5, none⟩ = some (.bool false) := (hTy).cell 5
        have fct5 := (hTy).frozen 5
        have lct := (hTy).lt
        clear HG HM3 hTz hno hTy
        go_wp2_with fail
        exact bodyPost_ret (v := tv (tok0 17 [])) (by simp [results, Tryz.results62, go_sem, ct0, ct1, ct2, ct3, ct4, ct5, lct, tv, tok0]) rfl ⟨by rw [HG3.out], by
         have h0 := HW.out.next HS.out
         rw [HG3.out]
         show Moved w _ B oa cap b o l (i + 1)
         repeat (first | with_reducible exact h0 | (with_reducible refine Moved.far ?_ HR.out _ _ ?hq; case hq => (show w.heap.size ≤ r0; omega)))⟩
      · have gx : ((59 : Int) == c) = false := by rw [beq_eq_false_iff_ne]; exact fun e => hx e.symm
        clear HG
        go_wp2_with fail
        go_roundg (9 - 9)
        case measure => omega
        case rel => exact ⟨9, rfl, by omega, Lib.hid (fun j x hj hx2 => by
         by_cases hj2 : j = 8
         · subst hj2; cases hx2; exact hx
         · exact hno.out j x (by omega) hx2), rfl, by omega⟩
  · obtain rfl : k = 9 := by omega
    have hsn : singleF c = none := single_none (fun j x hx => hno.out j x (by
     have := (List.getElem?_eq_some_iff.1 hx).1
     exact this) hx)
    have hG := HG.out
    rw [hsn] at hG
    simp only at hG
    have hbl := fun w => blank_any c w
    cases hbc : blankI c with
    | true =>
      rw [if_pos hbc] at hG
      rw [hbc] at hbl
      have HB := Lib.hid hbl
      have HG3 := Lib.hid hG.symm
      have HX := Lib.hid (blanks_any HM3.out.rd)
      clear hbl hbc hG HG HK1
      go_wp2_with fail
      go_wp2_with fail
      ((with_reducible refine (HB.out _).mono ?_); rintro e w' ⟨rfl, rfl⟩)
      go_wp2_with fail
      ((with_reducible refine HX.out.mono ?_); rintro e w5 ⟨rfl, hmv⟩)
      have HM9 := Lib.hid (HM3.out.next hmv)
      have hTz := HT.out.mvd HM9.out (by omega)
      have ct0 : w5.cell? ⟨r0, 0, none⟩ = some (.int .i64 0) := (hTz).cell 0
      have fct0 := (hTz).frozen 0
      have ct1 : w5.cell? ⟨r0, 1, none⟩ = some (.string ⟨#[]⟩) := (hTz).cell 1
      have fct1 := (hTz).frozen 1
      have ct2 : w5.cell? ⟨r0, 2, none⟩ = some (.int .i64 0) := (hTz).cell 2
      have fct2 := (hTz).frozen 2
      have ct3 : w5.cell? ⟨r0, 3, none⟩ = some (.int .i64 0) := (hTz).cell 3
      have fct3 := (hTz).frozen 3
      have ct4 : w5.cell? ⟨r0, 4, none⟩ = some (.bool false) := (hTz).cell 4
      have fct4 := (hTz).frozen 4
      have ct5 : w5.cell? ⟨r0, 5, none⟩ = some (.bool false) := (hTz).cell 5
      have fct5 := (hTz).frozen 5
      have lct := (hTz).lt
      clear hTz hmv HX
      go_wp2_with fail
      exact bodyPost_ret (v := tv (tok0 13 [])) (by simp [results, Tryz.results62, go_sem, ct0, ct1, ct2, ct3, ct4, ct5, lct, tv, tok0]) rfl ⟨by rw [HG3.out], by
       have h0 := HW.out.next HM9.out
       rw [HG3.out]
       show Moved w _ B oa cap b o l (blaF l i)
       repeat (first | with_reducible exact h0 | (with_reducible refine Moved.far ?_ HR.out _ _ ?hq; case hq => (show w.heap.size ≤ r0; omega)))⟩
    | false =>
      rw [if_neg (by rw [hbc]; simp)] at hG
      rw [hbc] at hbl
      have HB := Lib.hid hbl
      clear hbl hbc HG HK1
      go_wp2_with fail
      go_wp2_with fail
      ((with_reducible refine (HB.out _).mono ?_); rintro e w' ⟨rfl, rfl⟩)
      clear HB
      obtain ⟨b1, hb1⟩ : ∃ b, decide (c = 34 ∨ c = 39) = b := ⟨_, rfl⟩
      go_upto_region 12 with fail
      go_cut [40] from 40 to 46 (fun s wx => s = .bool b1 ∧ Hid (Moved w1 wx B oa cap b o l i))
      case first =>
       have ways : (c == 34) = true ∧ b1 = true ∨ (c == 34) = false ∧ (c == 39) = b1 := by
        by_cases e1 : c = 34
        · exact Or.inl ⟨by simpa using e1, by rw [← hb1]; simp [e1]⟩
        · exact Or.inr ⟨by simpa using e1, by rw [← hb1]; simp only [e1, false_or]; by_cases e2 : c = 39 <;> simp [e2]⟩
       clear hb1 hG
       rcases ways with ⟨k1, rfl⟩ | ⟨k1, k2⟩
       all_goals
        go_wp2_with fail
        go_meet
        exact ⟨rfl, HM3⟩
      case rest =>
       obtain ⟨rfl, HM4⟩ := hcut
       clear HM3
       cases b1 with
       | true =>
         have hcc : c = 34 ∨ c = 39 := by simpa using hb1
         rw [if_pos hcc] at hG
         have hset : Moved w1 (wc.setCell ⟨B, 1, none⟩ (.int .i64 ((i : Int) + 1))) B oa cap b o l (i + 1) := by have := HM4.out.set (j := i + 1) (by omega); simpa using this
         have HS := Lib.hid hset
         have hblk := HM4.out.rd.blk
         have cr0 : wc.cell? ⟨B, 0, none⟩ = some (.slice oa l.length cap) := (hblk).cell 0
         have fcr0 := (hblk).frozen 0
         have cr1 : wc.cell? ⟨B, 1, none⟩ = some (.int .i64 (i : Int)) := (hblk).cell 1
         have fcr1 := (hblk).frozen 1
         have lcr := (hblk).lt
         clear hblk hset
         have hx := string_any c HS.out.rd (by omega)
         obtain ⟨⟨⟨uk, ut, ⟨un, ud⟩, ui, uid⟩, ue⟩, hu⟩ : ∃ U, stringF l c (i + 1) = U := ⟨_, rfl⟩
         rw [hu] at hx hG
         simp only [tv] at hx
         have HX := Lib.hid hx
         have HG3 := Lib.hid hG.symm
         clear hx hu hG
         clear hb1 hcc HM4
         go_wp2_with fail
         ((with_reducible refine HX.out.mono ?_); rintro e w5 ⟨rfl, hmv⟩)
         have HM9 := Lib.hid (HS.out.next hmv)
         have hTz := HT.out.mvd HM9.out (by omega)
         have ct0 : w5.cell? ⟨r0, 0, none⟩ = some (.int .i64 0) := (hTz).cell 0
         have fct0 := (hTz).frozen 0
         have ct1 : w5.cell? ⟨r0, 1, none⟩ = some (.string ⟨#[]⟩) := (hTz).cell 1
         have fct1 := (hTz).frozen 1
         have ct2 : w5.cell? ⟨r0, 2, none⟩ = some (.int .i64 0) := (hTz).cell 2
         have fct2 := (hTz).frozen 2
         have ct3 : w5.cell? ⟨r0, 3, none⟩ = some (.int .i64 0) := (hTz).cell 3
         have fct3 := (hTz).frozen 3
         have ct4 : w5.cell? ⟨r0, 4, none⟩ = some (.bool false) := (hTz).cell 4
         have fct4 := (hTz).frozen 4
         have ct5 : w5.cell? ⟨r0, 5, none⟩ = some (.bool false) := (hTz).cell 5
         have fct5 := (hTz).frozen 5
         have lct := (hTz).lt
         clear hTz hmv HX
         go_wp2_with fail
         exact bodyPost_ret (v := tv ⟨uk, ut, (un, ud), ui, uid⟩) (by simp [results, Tryz.results62, go_sem, ct0, ct1, ct2, ct3, ct4, ct5, lct, tv, tok0]) rfl ⟨by rw [HG3.out], by
          have h0 := HW.out.next HM9.out
          rw [HG3.out]
          show Moved w _ B oa cap b o l ue
          repeat (first | with_reducible exact h0 | (with_reducible refine Moved.far ?_ HR.out _ _ ?hq; case hq => (show w.heap.size ≤ r0; omega)))⟩
       | false =>
         have hcc : ¬ (c = 34 ∨ c = 39) := by simpa using hb1
         rw [if_neg hcc] at hG
         clear hb1 hcc
         obtain ⟨b2, hb2⟩ : ∃ b, decide (c = 35 ∧ ((d ≠ -1 ∧ letterI d = true) ∨ escI d e = true)) = b := ⟨_, rfl⟩
         go_upto_region 15 with fail
         go_cut [57] from 57 to 72 (fun s wx => s = .bool b2 ∧ Hid (Moved w1 wx B oa cap b o l i))
         case first =>
          have hlt := fun w => letter3_any d w
          have hes := fun w => esc_any d e w
          obtain ⟨bl, hbl⟩ : ∃ b, letterI d = b := ⟨_, rfl⟩
          obtain ⟨bs, hbs⟩ : ∃ b, escI d e = b := ⟨_, rfl⟩
          rw [hbl] at hlt hb2
          rw [hbs] at hes hb2
          have HL := Lib.hid hlt
          have HS := Lib.hid hes
          clear hlt hes hbl hbs hG
          by_cases h35 : c = 35
          · subst h35
            by_cases hd1 : d = -1
            · subst hd1
              obtain rfl : bs = b2 := by rw [← hb2]; cases bs <;> simp
              clear hb2
              go_wp2_with fail
              go_wp2_with fail
              ((with_reducible refine (HS.out _).mono ?_); rintro e w' ⟨rfl, rfl⟩)
              go_wp2_with fail
              go_meet
              exact ⟨rfl, HM4⟩
            · have gd : (d != -1) = true := by simpa using hd1
              cases bl with
              | true =>
                obtain rfl : b2 = true := by rw [← hb2]; simp [hd1]
                clear hb2
                go_wp2_with fail
                go_wp2_with fail
                ((with_reducible refine (HL.out _).mono ?_); rintro e w' ⟨rfl, rfl⟩)
                go_wp2_with fail
                go_meet
                exact ⟨rfl, HM4⟩
              | false =>
                obtain rfl : bs = b2 := by rw [← hb2]; cases bs <;> simp
                clear hb2
                go_wp2_with fail
                go_wp2_with fail
                ((with_reducible refine (HL.out _).mono ?_); rintro e w' ⟨rfl, rfl⟩)
                go_wp2_with fail
                go_wp2_with fail
                ((with_reducible refine (HS.out _).mono ?_); rintro e w' ⟨rfl, rfl⟩)
                go_wp2_with fail
                go_meet
                exact ⟨rfl, HM4⟩
          · have g35 : (c == 35) = false := by simpa using h35
            obtain rfl : b2 = false := by rw [← hb2]; simp [h35]
            clear hb2
            go_wp2_with fail
            go_meet
            exact ⟨rfl, HM4⟩
         case rest =>
          obtain ⟨rfl, HM5⟩ := hcut
          clear HM4
          cases b2 with
          | true =>
            have hcc : c = 35 ∧ ((d ≠ -1 ∧ letterI d = true) ∨ escI d e = true) := by simpa using hb2
            rw [if_pos hcc] at hG
            clear hb2 hcc
            have hset : Moved w1 (wc.setCell ⟨B, 1, none⟩ (.int .i64 ((i : Int) + 1))) B oa cap b o l (i + 1) := by have := HM5.out.set (j := i + 1) (by omega); simpa using this
            have HS := Lib.hid hset
            have hblk := HM5.out.rd.blk
            have cr0 : wc.cell? ⟨B, 0, none⟩ = some (.slice oa l.length cap) := (hblk).cell 0
            have fcr0 := (hblk).frozen 0
            have cr1 : wc.cell? ⟨B, 1, none⟩ = some (.int .i64 (i : Int)) := (hblk).cell 1
            have fcr1 := (hblk).frozen 1
            have lcr := (hblk).lt
            clear hblk hset
            have hA := at2_any HS.out.rd
            rw [show i + 1 + 2 = i + 3 by omega, HF.out] at hA
            have HA := Lib.hid hA
            have hbg := fun w => begins_any d e f w
            obtain ⟨bg, hbge⟩ : ∃ bg, beginsI d e f = bg := ⟨_, rfl⟩
            rw [hbge] at hbg hG
            have HBG := Lib.hid hbg
            have hnm := fun wy (hy : RAt wy B oa cap b o l (i + 1)) => name_any hy
            obtain ⟨⟨s, q⟩, hs⟩ : ∃ S, nameF l (i + 1) = S := ⟨_, rfl⟩
            rw [hs] at hnm hG
            simp only at hnm hG
            have HNM := Lib.hid hnm
            have HG3 := Lib.hid hG.symm
            clear hG hnm hs hbg hbge hA HM5
            go_wp2_with fail
            go_wp2_with fail
            ((with_reducible refine (HA.out).mono ?_); rintro e w' ⟨rfl, hbw⟩)
            obtain ⟨n1, rfl⟩ := grow_mk hbw
            clear hbw
            go_wp2_with fail
            ((with_reducible refine (HBG.out _).mono ?_); rintro e w' ⟨rfl, rfl⟩)
            have HMx := Lib.hid (HS.out.grow n1)
            clear HS HA HBG cr0 cr1 fcr0 fcr1 lcr
            generalize grow _ n1 = wd at *
            have HX := Lib.hid (HNM.out _ HMx.out.rd)
            clear HNM
            go_wp2_with fail
            ((with_reducible refine HX.out.mono ?_); rintro e w5 ⟨rfl, hmv⟩)
            have HM9 := Lib.hid (HMx.out.next hmv)
            have hTz := HT.out.mvd HM9.out (by omega)
            have ct0 : w5.cell? ⟨r0, 0, none⟩ = some (.int .i64 0) := (hTz).cell 0
            have fct0 := (hTz).frozen 0
            have ct1 : w5.cell? ⟨r0, 1, none⟩ = some (.string ⟨#[]⟩) := (hTz).cell 1
            have fct1 := (hTz).frozen 1
            have ct2 : w5.cell? ⟨r0, 2, none⟩ = some (.int .i64 0) := (hTz).cell 2
            have fct2 := (hTz).frozen 2
            have ct3 : w5.cell? ⟨r0, 3, none⟩ = some (.int .i64 0) := (hTz).cell 3
            have fct3 := (hTz).frozen 3
            have ct4 : w5.cell? ⟨r0, 4, none⟩ = some (.bool false) := (hTz).cell 4
            have fct4 := (hTz).frozen 4
            have ct5 : w5.cell? ⟨r0, 5, none⟩ = some (.bool false) := (hTz).cell 5
            have fct5 := (hTz).frozen 5
            have lct := (hTz).lt
            clear hTz hmv HX
            go_wp2_with fail
            exact bodyPost_ret (v := tv ⟨4, s, (0, 0), false, bg⟩) (by simp [results, Tryz.results62, go_sem, ct0, ct1, ct2, ct3, ct4, ct5, lct, tv, tok0]) rfl ⟨by rw [HG3.out], by
             have h0 := HW.out.next HM9.out
             rw [HG3.out]
             show Moved w _ B oa cap b o l q
             repeat (first | with_reducible exact h0 | (with_reducible refine Moved.far ?_ HR.out _ _ ?hq; case hq => (show w.heap.size ≤ r0; omega)))⟩
          | false =>
            have hcc : ¬ (c = 35 ∧ ((d ≠ -1 ∧ letterI d = true) ∨ escI d e = true)) := by simpa using hb2
            rw [if_neg hcc] at hG
            clear hb2 hcc
            have hnu := fun w => number3_any c d e w
            cases hbn : numI c d e with
            | true =>
              rw [if_pos hbn] at hG
              rw [hbn] at hnu
              have HN := Lib.hid hnu
              have hx := figure_any HM5.out.rd (by omega) hfig
              obtain ⟨⟨⟨uk, ut, ⟨un, ud⟩, ui, uid⟩, ue⟩, hu⟩ : ∃ U, figureF l i = U := ⟨_, rfl⟩
              rw [hu] at hx hG
              simp only [tv] at hx
              have HX := Lib.hid hx
              have HG3 := Lib.hid hG.symm
              clear hx hu hG
              clear hnu hbn
              go_wp2_with fail
              go_wp2_with fail
              ((with_reducible refine (HN.out _).mono ?_); rintro e w' ⟨rfl, rfl⟩)
              go_wp2_with fail
              ((with_reducible refine HX.out.mono ?_); rintro e w5 ⟨rfl, hmv⟩)
              have HM9 := Lib.hid (HM5.out.next hmv)
              have hTz := HT.out.mvd HM9.out (by omega)
              have ct0 : w5.cell? ⟨r0, 0, none⟩ = some (.int .i64 0) := (hTz).cell 0
              have fct0 := (hTz).frozen 0
              have ct1 : w5.cell? ⟨r0, 1, none⟩ = some (.string ⟨#[]⟩) := (hTz).cell 1
              have fct1 := (hTz).frozen 1
              have ct2 : w5.cell? ⟨r0, 2, none⟩ = some (.int .i64 0) := (hTz).cell 2
              have fct2 := (hTz).frozen 2
              have ct3 : w5.cell? ⟨r0, 3, none⟩ = some (.int .i64 0) := (hTz).cell 3
              have fct3 := (hTz).frozen 3
              have ct4 : w5.cell? ⟨r0, 4, none⟩ = some (.bool false) := (hTz).cell 4
              have fct4 := (hTz).frozen 4
              have ct5 : w5.cell? ⟨r0, 5, none⟩ = some (.bool false) := (hTz).cell 5
              have fct5 := (hTz).frozen 5
              have lct := (hTz).lt
              clear hTz hmv HX
              go_wp2_with fail
              exact bodyPost_ret (v := tv ⟨uk, ut, (un, ud), ui, uid⟩) (by simp [results, Tryz.results62, go_sem, ct0, ct1, ct2, ct3, ct4, ct5, lct, tv, tok0]) rfl ⟨by rw [HG3.out], by
               have h0 := HW.out.next HM9.out
               rw [HG3.out]
               show Moved w _ B oa cap b o l ue
               repeat (first | with_reducible exact h0 | (with_reducible refine Moved.far ?_ HR.out _ _ ?hq; case hq => (show w.heap.size ≤ r0; omega)))⟩
            | false =>
              rw [if_neg (by rw [hbn]; simp)] at hG
              rw [hbn] at hnu
              have HN := Lib.hid hnu
              clear hnu hbn
              go_wp2_with fail
              go_wp2_with fail
              ((with_reducible refine (HN.out _).mono ?_); rintro e w' ⟨rfl, rfl⟩)
              clear HN
              obtain ⟨b3, hb3⟩ : ∃ b, decide (c = 45 ∧ d = 45 ∧ e = 62) = b := ⟨_, rfl⟩
              go_upto_region 21 with fail
              go_cut [96] from 96 to 106 (fun s wx => s = .bool b3 ∧ Hid (Moved w1 wx B oa cap b o l i))
              case first =>
               have ways : (c == 45) = false ∧ b3 = false ∨ (c == 45) = true ∧ (d == 45) = false ∧ b3 = false ∨ (c == 45) = true ∧ (d == 45) = true ∧ (e == 62) = b3 := by
                by_cases e1 : c = 45
                · by_cases e2 : d = 45
                  · exact Or.inr (Or.inr ⟨by simpa using e1, by simpa using e2, by rw [← hb3]; by_cases e3 : e = 62 <;> simp [e1, e2, e3]⟩)
                  · exact Or.inr (Or.inl ⟨by simpa using e1, by simpa using e2, by rw [← hb3]; simp [e2]⟩)
                · exact Or.inl ⟨by simpa using e1, by rw [← hb3]; simp [e1]⟩
               clear hb3 hG
               rcases ways with ⟨k1, rfl⟩ | ⟨k1, k2, rfl⟩ | ⟨k1, k2, k3⟩
               all_goals
                go_wp2_with fail
                go_meet
                exact ⟨rfl, HM5⟩
              case rest =>
               obtain ⟨rfl, HM6⟩ := hcut
               clear HM5
               cases b3 with
               | true =>
                 have hcc : c = 45 ∧ d = 45 ∧ e = 62 := by simpa using hb3
                 rw [if_pos hcc] at hG
                 have HG3 := Lib.hid hG.symm
                 clear hb3 hcc hG
                 have hset : Moved w1 (wc.setCell ⟨B, 1, none⟩ (.int .i64 ((i : Int) + 3))) B oa cap b o l (i + 3) := by have := HM6.out.set (j := i + 3) (by omega); simpa using this
                 have HS := Lib.hid hset
                 have hblk := HM6.out.rd.blk
                 have cr0 : wc.cell? ⟨B, 0, none⟩ = some (.slice oa l.length cap) := (hblk).cell 0
                 have fcr0 := (hblk).frozen 0
                 have cr1 : wc.cell? ⟨B, 1, none⟩ = some (.int .i64 (i : Int)) := (hblk).cell 1
                 have fcr1 := (hblk).frozen 1
                 have lcr := (hblk).lt
                 clear hblk hset
                 have hTy := HT.out.mvd HM6.out (by omega)
                 have ct0 : wc.cell? ⟨r0, 0, none⟩ = some (.int .i64 0) := (hTy).cell 0
                 have fct0 := (hTy).frozen 0
                 have ct1 : wc.cell? ⟨r0, 1, none⟩ = some (.string ⟨#[]⟩) := (hTy).cell 1
                 have fct1 := (hTy).frozen 1
                 have ct2 : wc.cell? ⟨r0, 2, none⟩ = some (.int .i64 0) := (hTy).cell 2
                 have fct2 := (hTy).frozen 2
                 have ct3 : wc.cell? ⟨r0, 3, none⟩ = some (.int .i64 0) := (hTy).cell 3
                 have fct3 := (hTy).frozen 3
                 have ct4 : wc.cell? ⟨r0, 4, none⟩ = some (.bool false) := (hTy).cell 4
                 have fct4 := (hTy).frozen 4
                 have ct5 : wc.cell? ⟨r0, 5, none⟩ = some (.bool false) := (hTy).cell 5
                 have fct5 := (hTy).frozen 5
                 have lct := (hTy).lt
                 have hne : B ≠ r0 := by omega
                 clear HM6 hTy
                 go_wp2_with fail
                 exact bodyPost_ret (v := tv (tok0 15 [])) (by simp [results, Tryz.results62, go_sem, ct0, ct1, ct2, ct3, ct4, ct5, lct, tv, tok0]) rfl ⟨by rw [HG3.out], by
                  have h0 := HW.out.next HS.out
                  rw [HG3.out]
                  show Moved w _ B oa cap b o l (i + 3)
                  repeat (first | with_reducible exact h0 | (with_reducible refine Moved.far ?_ HR.out _ _ ?hq; case hq => (show w.heap.size ≤ r0; omega)))⟩
               | false =>
                 have hcc : ¬ (c = 45 ∧ d = 45 ∧ e = 62) := by simpa using hb3
                 rw [if_neg hcc] at hG
                 clear hb3 hcc
                 obtain ⟨b4, hb4⟩ : ∃ b, decide (c = 60 ∧ d = 33 ∧ e = 45 ∧ f = 45) = b := ⟨_, rfl⟩
                 go_upto_region 24 with fail
                 go_cut [115] from 115 to 130 (fun s wx => s = .bool b4 ∧ Hid (Moved w1 wx B oa cap b o l i))
                 case first =>
                  have ways : (c == 60) = false ∧ b4 = false ∨ (c == 60) = true ∧ (d == 33) = false ∧ b4 = false ∨ (c == 60) = true ∧ (d == 33) = true ∧ (e == 45) = false ∧ b4 = false ∨ (c == 60) = true ∧ (d == 33) = true ∧ (e == 45) = true ∧ (f == 45) = b4 := by
                   by_cases e1 : c = 60
                   · by_cases e2 : d = 33
                     · by_cases e3 : e = 45
                       · exact Or.inr (Or.inr (Or.inr ⟨by simpa using e1, by simpa using e2, by simpa using e3, by rw [← hb4]; by_cases e4 : f = 45 <;> simp [e1, e2, e3, e4]⟩))
                       · exact Or.inr (Or.inr (Or.inl ⟨by simpa using e1, by simpa using e2, by simpa using e3, by rw [← hb4]; simp [e3]⟩))
                     · exact Or.inr (Or.inl ⟨by simpa using e1, by simpa using e2, by rw [← hb4]; simp [e2]⟩)
                   · exact Or.inl ⟨by simpa using e1, by rw [← hb4]; simp [e1]⟩
                  have hA := at3_any HM6.out.rd
                  rw [HF.out] at hA
                  have HA := Lib.hid hA
                  clear hb4 hG hA
                  rcases ways with ⟨k1, rfl⟩ | ⟨k1, k2, rfl⟩ | ⟨k1, k2, k3, rfl⟩ | ⟨k1, k2, k3, k4⟩
                  · go_wp2_with fail
                    go_meet
                    exact ⟨rfl, HM6⟩
                  · go_wp2_with fail
                    go_meet
                    exact ⟨rfl, HM6⟩
                  · go_wp2_with fail
                    go_meet
                    exact ⟨rfl, HM6⟩
                  · go_wp2_with fail
                    go_wp2_with fail
                    ((with_reducible refine (HA.out).mono ?_); rintro e w' ⟨rfl, hbw⟩)
                    obtain ⟨n1, rfl⟩ := grow_mk hbw
                    clear hbw
                    have HMx := Lib.hid (HM6.out.grow n1)
                    clear HM6 HA
                    generalize grow _ n1 = wd at *
                    go_wp2_with fail
                    go_meet
                    exact ⟨rfl, HMx⟩
                 case rest =>
                  obtain ⟨rfl, HM7⟩ := hcut
                  clear HM6
                  cases b4 with
                  | true =>
                    have hcc : c = 60 ∧ d = 33 ∧ e = 45 ∧ f = 45 := by simpa using hb4
                    rw [if_pos hcc] at hG
                    have HG3 := Lib.hid hG.symm
                    clear hb4 hcc hG
                    have hset : Moved w1 (wc.setCell ⟨B, 1, none⟩ (.int .i64 ((i : Int) + 4))) B oa cap b o l (i + 4) := by have := HM7.out.set (j := i + 4) (by omega); simpa using this
                    have HS := Lib.hid hset
                    have hblk := HM7.out.rd.blk
                    have cr0 : wc.cell? ⟨B, 0, none⟩ = some (.slice oa l.length cap) := (hblk).cell 0
                    have fcr0 := (hblk).frozen 0
                    have cr1 : wc.cell? ⟨B, 1, none⟩ = some (.int .i64 (i : Int)) := (hblk).cell 1
                    have fcr1 := (hblk).frozen 1
                    have lcr := (hblk).lt
                    clear hblk hset
                    have hTy := HT.out.mvd HM7.out (by omega)
                    have ct0 : wc.cell? ⟨r0, 0, none⟩ = some (.int .i64 0) := (hTy).cell 0
                    have fct0 := (hTy).frozen 0
                    have ct1 : wc.cell? ⟨r0, 1, none⟩ = some (.string ⟨#[]⟩) := (hTy).cell 1
                    have fct1 := (hTy).frozen 1
                    have ct2 : wc.cell? ⟨r0, 2, none⟩ = some (.int .i64 0) := (hTy).cell 2
                    have fct2 := (hTy).frozen 2
                    have ct3 : wc.cell? ⟨r0, 3, none⟩ = some (.int .i64 0) := (hTy).cell 3
                    have fct3 := (hTy).frozen 3
                    have ct4 : wc.cell? ⟨r0, 4, none⟩ = some (.bool false) := (hTy).cell 4
                    have fct4 := (hTy).frozen 4
                    have ct5 : wc.cell? ⟨r0, 5, none⟩ = some (.bool false) := (hTy).cell 5
                    have fct5 := (hTy).frozen 5
                    have lct := (hTy).lt
                    have hne : B ≠ r0 := by omega
                    clear HM7 hTy
                    go_wp2_with fail
                    exact bodyPost_ret (v := tv (tok0 14 [])) (by simp [results, Tryz.results62, go_sem, ct0, ct1, ct2, ct3, ct4, ct5, lct, tv, tok0]) rfl ⟨by rw [HG3.out], by
                     have h0 := HW.out.next HS.out
                     rw [HG3.out]
                     show Moved w _ B oa cap b o l (i + 4)
                     repeat (first | with_reducible exact h0 | (with_reducible refine Moved.far ?_ HR.out _ _ ?hq; case hq => (show w.heap.size ≤ r0; omega)))⟩
                  | false =>
                    have hcc : ¬ (c = 60 ∧ d = 33 ∧ e = 45 ∧ f = 45) := by simpa using hb4
                    rw [if_neg hcc] at hG
                    clear hb4 hcc
                    obtain ⟨b5, hb5⟩ : ∃ b, decide (c = 64 ∧ beginsI d e f = true) = b := ⟨_, rfl⟩
                    go_upto_region 27 with fail
                    go_cut [139] from 139 to 148 (fun s wx => s = .bool b5 ∧ Hid (Moved w1 wx B oa cap b o l i))
                    case first =>
                     have hA := at3_any HM7.out.rd
                     rw [HF.out] at hA
                     have HA := Lib.hid hA
                     have hbg := fun w => begins_any d e f w
                     obtain ⟨bg, hbge⟩ : ∃ bg, beginsI d e f = bg := ⟨_, rfl⟩
                     rw [hbge] at hbg hb5
                     have HBG := Lib.hid hbg
                     clear hbg hbge hA hG
                     by_cases h64 : c = 64
                     · subst h64
                       obtain rfl : bg = b5 := by rw [← hb5]; cases bg <;> simp
                       clear hb5
                       go_wp2_with fail
                       go_wp2_with fail
                       ((with_reducible refine (HA.out).mono ?_); rintro e w' ⟨rfl, hbw⟩)
                       obtain ⟨n1, rfl⟩ := grow_mk hbw
                       clear hbw
                       go_wp2_with fail
                       ((with_reducible refine (HBG.out _).mono ?_); rintro e w' ⟨rfl, rfl⟩)
                       have HMx := Lib.hid (HM7.out.grow n1)
                       clear HM7 HA
                       generalize grow _ n1 = wd at *
                       go_wp2_with fail
                       go_meet
                       exact ⟨rfl, HMx⟩
                     · have g64 : (c == 64) = false := by simpa using h64
                       obtain rfl : b5 = false := by rw [← hb5]; simp [h64]
                       clear hb5
                       go_wp2_with fail
                       go_meet
                       exact ⟨rfl, HM7⟩
                    case rest =>
                     obtain ⟨rfl, HM8⟩ := hcut
                     clear HM7
                     cases b5 with
                     | true =>
                       have hcc : c = 64 ∧ beginsI d e f = true := by simpa using hb5
                       rw [if_pos hcc] at hG
                       clear hb5 hcc
                       have hset : Moved w1 (wc.setCell ⟨B, 1, none⟩ (.int .i64 ((i : Int) + 1))) B oa cap b o l (i + 1) := by have := HM8.out.set (j := i + 1) (by omega); simpa using this
                       have HS := Lib.hid hset
                       have hblk := HM8.out.rd.blk
                       have cr0 : wc.cell? ⟨B, 0, none⟩ = some (.slice oa l.length cap) := (hblk).cell 0
                       have fcr0 := (hblk).frozen 0
                       have cr1 : wc.cell? ⟨B, 1, none⟩ = some (.int .i64 (i : Int)) := (hblk).cell 1
                       have fcr1 := (hblk).frozen 1
                       have lcr := (hblk).lt
                       clear hblk hset
                       have hnm := name_any HS.out.rd
                       obtain ⟨⟨s, q⟩, hs⟩ : ∃ S, nameF l (i + 1) = S := ⟨_, rfl⟩
                       rw [hs] at hnm hG
                       simp only at hnm hG
                       have HX := Lib.hid hnm
                       have HG3 := Lib.hid hG.symm
                       clear hG hnm hs HM8
                       go_wp2_with fail
                       ((with_reducible refine HX.out.mono ?_); rintro e w5 ⟨rfl, hmv⟩)
                       have HM9 := Lib.hid (HS.out.next hmv)
                       have hTz := HT.out.mvd HM9.out (by omega)
                       have ct0 : w5.cell? ⟨r0, 0, none⟩ = some (.int .i64 0) := (hTz).cell 0
                       have fct0 := (hTz).frozen 0
                       have ct1 : w5.cell? ⟨r0, 1, none⟩ = some (.string ⟨#[]⟩) := (hTz).cell 1
                       have fct1 := (hTz).frozen 1
                       have ct2 : w5.cell? ⟨r0, 2, none⟩ = some (.int .i64 0) := (hTz).cell 2
                       have fct2 := (hTz).frozen 2
                       have ct3 : w5.cell? ⟨r0, 3, none⟩ = some (.int .i64 0) := (hTz).cell 3
                       have fct3 := (hTz).frozen 3
                       have ct4 : w5.cell? ⟨r0, 4, none⟩ = some (.bool false) := (hTz).cell 4
                       have fct4 := (hTz).frozen 4
                       have ct5 : w5.cell? ⟨r0, 5, none⟩ = some (.bool false) := (hTz).cell 5
                       have fct5 := (hTz).frozen 5
                       have lct := (hTz).lt
                       clear hTz hmv HX
                       go_wp2_with fail
                       exact bodyPost_ret (v := tv (tok0 3 s)) (by simp [results, Tryz.results62, go_sem, ct0, ct1, ct2, ct3, ct4, ct5, lct, tv, tok0]) rfl ⟨by rw [HG3.out], by
                        have h0 := HW.out.next HM9.out
                        rw [HG3.out]
                        show Moved w _ B oa cap b o l q
                        repeat (first | with_reducible exact h0 | (with_reducible refine Moved.far ?_ HR.out _ _ ?hq; case hq => (show w.heap.size ≤ r0; omega)))⟩
                     | false =>
                       have hcc : ¬ (c = 64 ∧ beginsI d e f = true) := by simpa using hb5
                       rw [if_neg hcc] at hG
                       clear hb5 hcc
                       have hbg := fun w => begins_any c d e w
                       cases hbn : beginsI c d e with
                       | true =>
                         rw [if_pos hbn] at hG
                         rw [hbn] at hbg
                         have HN := Lib.hid hbg
                         have hx := word_any HM8.out.rd (by omega)
                         obtain ⟨⟨⟨uk, ut, ⟨un, ud⟩, ui, uid⟩, ue⟩, hu⟩ : ∃ U, wordF l i = U := ⟨_, rfl⟩
                         rw [hu] at hx hG
                         simp only [tv] at hx
                         have HX := Lib.hid hx
                         have HG3 := Lib.hid hG.symm
                         clear hx hu hG
                         clear hbg hbn
                         go_wp2_with fail
                         go_wp2_with fail
                         ((with_reducible refine (HN.out _).mono ?_); rintro e w' ⟨rfl, rfl⟩)
                         go_wp2_with fail
                         ((with_reducible refine HX.out.mono ?_); rintro e w5 ⟨rfl, hmv⟩)
                         have HM9 := Lib.hid (HM8.out.next hmv)
                         have hTz := HT.out.mvd HM9.out (by omega)
                         have ct0 : w5.cell? ⟨r0, 0, none⟩ = some (.int .i64 0) := (hTz).cell 0
                         have fct0 := (hTz).frozen 0
                         have ct1 : w5.cell? ⟨r0, 1, none⟩ = some (.string ⟨#[]⟩) := (hTz).cell 1
                         have fct1 := (hTz).frozen 1
                         have ct2 : w5.cell? ⟨r0, 2, none⟩ = some (.int .i64 0) := (hTz).cell 2
                         have fct2 := (hTz).frozen 2
                         have ct3 : w5.cell? ⟨r0, 3, none⟩ = some (.int .i64 0) := (hTz).cell 3
                         have fct3 := (hTz).frozen 3
                         have ct4 : w5.cell? ⟨r0, 4, none⟩ = some (.bool false) := (hTz).cell 4
                         have fct4 := (hTz).frozen 4
                         have ct5 : w5.cell? ⟨r0, 5, none⟩ = some (.bool false) := (hTz).cell 5
                         have fct5 := (hTz).frozen 5
                         have lct := (hTz).lt
                         clear hTz hmv HX
                         go_wp2_with fail
                         exact bodyPost_ret (v := tv ⟨uk, ut, (un, ud), ui, uid⟩) (by simp [results, Tryz.results62, go_sem, ct0, ct1, ct2, ct3, ct4, ct5, lct, tv, tok0]) rfl ⟨by rw [HG3.out], by
                          have h0 := HW.out.next HM9.out
                          rw [HG3.out]
                          show Moved w _ B oa cap b o l ue
                          repeat (first | with_reducible exact h0 | (with_reducible refine Moved.far ?_ HR.out _ _ ?hq; case hq => (show w.heap.size ≤ r0; omega)))⟩
                       | false =>
                         rw [if_neg (by rw [hbn]; simp)] at hG
                         rw [hbn] at hbg
                         have HN := Lib.hid hbg
                         have HG3 := Lib.hid hG.symm
                         clear hbg hbn hG
                         go_wp2_with fail
                         go_wp2_with fail
                         ((with_reducible refine (HN.out _).mono ?_); rintro e w' ⟨rfl, rfl⟩)
                         have hset : Moved w1 (w'.setCell ⟨B, 1, none⟩ (.int .i64 ((i : Int) + 1))) B oa cap b o l (i + 1) := by have := HM8.out.set (j := i + 1) (by omega); simpa using this
                         have HS := Lib.hid hset
                         have hblk := HM8.out.rd.blk
                         have cr0 : w'.cell? ⟨B, 0, none⟩ = some (.slice oa l.length cap) := (hblk).cell 0
                         have fcr0 := (hblk).frozen 0
                         have cr1 : w'.cell? ⟨B, 1, none⟩ = some (.int .i64 (i : Int)) := (hblk).cell 1
                         have fcr1 := (hblk).frozen 1
                         have lcr := (hblk).lt
                         clear hblk hset
                         have hsc := HS.out
                         clear HM8 HN
                         go_upto_region 33 with fail
                         clear cr0 cr1 fcr0 fcr1 lcr
                         generalize w'.setCell _ _ = wd at *
                         have hsl : Sl (wd.alloc (.cells #[.int .i32 c] 21)) (some ⟨wd.heap.size, 0, none⟩) 1 1 wd.heap.size 0 1 (runesV [c]) :=
                          ⟨rfl, Nat.le_refl _, by decide, fun _ => ⟨rfl, by simp⟩, fun j v hv => by
                            have hj : j = 0 := by
                             have := (List.getElem?_eq_some_iff.1 hv).1
                             simp [runesV] at this
                             exact this
                            subst hj
                            obtain rfl := Option.some.inj hv
                            exact (Blk.new wd 21 #[.int .i32 c]).cell 0⟩
                         have hc32 := aF_32 HR.out.rng i
                         rw [HC.out] at hc32
                         have htx := text_of [c] _ 1 _ 0 _ hsl (fun x hx => by cases hx with | head => exact hc32 | tail _ h => cases h) (by simp)
                         simp only [List.length_singleton] at htx
                         have HTX := Lib.hid htx
                         have HSa := Lib.hid (HS.out.alloc (.cells #[.int .i32 c] 21))
                         clear hsl hc32 hsc HS htx
                         go_wp2_with fail
                         go_wp2_with fail
                         ((with_reducible refine (HTX.out).mono ?_); rintro e w' ⟨rfl, hbw⟩)
                         obtain ⟨n2, rfl⟩ := grow_mk hbw
                         clear hbw
                         have HM9 := Lib.hid (HSa.out.grow n2)
                         clear HSa HTX
                         generalize grow _ n2 = w5 at *
                         have hTz := HT.out.mvd HM9.out (by omega)
                         have ct0 : w5.cell? ⟨r0, 0, none⟩ = some (.int .i64 0) := (hTz).cell 0
                         have fct0 := (hTz).frozen 0
                         have ct1 : w5.cell? ⟨r0, 1, none⟩ = some (.string ⟨#[]⟩) := (hTz).cell 1
                         have fct1 := (hTz).frozen 1
                         have ct2 : w5.cell? ⟨r0, 2, none⟩ = some (.int .i64 0) := (hTz).cell 2
                         have fct2 := (hTz).frozen 2
                         have ct3 : w5.cell? ⟨r0, 3, none⟩ = some (.int .i64 0) := (hTz).cell 3
                         have fct3 := (hTz).frozen 3
                         have ct4 : w5.cell? ⟨r0, 4, none⟩ = some (.bool false) := (hTz).cell 4
                         have fct4 := (hTz).frozen 4
                         have ct5 : w5.cell? ⟨r0, 5, none⟩ = some (.bool false) := (hTz).cell 5
                         have fct5 := (hTz).frozen 5
                         have lct := (hTz).lt
                         clear hTz
                         go_wp2_with fail
                         exact bodyPost_ret (v := tv (tok0 9 (encF [c]))) (by simp [results, Tryz.results62, go_sem, ct0, ct1, ct2, ct3, ct4, ct5, lct, tv, tok0]) rfl ⟨by rw [HG3.out], by
                          have h0 := HW.out.next HM9.out
                          rw [HG3.out]
                          show Moved w _ B oa cap b o l (i + 1)
                          repeat (first | with_reducible exact h0 | (with_reducible refine Moved.far ?_ HR.out _ _ ?hq; case hq => (show w.heap.size ≤ r0; omega)))⟩
end Go.Proofs.YtplnhjmomomphaaGreatDoor

namespace Go.Proofs.YtplnhjmomomphaaGreatDoor
set_option linter.unusedVariables false
set_option linter.unusedSimpArgs false
open Go.RowKit
theorem restG_end (l : List Int) : ∀ (f i : Nat), i ≤ l.length → i ≤ restG l f i ∧ restG l f i ≤ l.length + 1
 | 0, _, h => ⟨Nat.le_refl _, Nat.le_succ_of_le h⟩
 | f + 1, i, h => by
   unfold restG
   split
   · omega
   · rename_i hc
     have h1 : i < l.length := aF_lt fun e => hc (Or.inl e)
     split
     · have h2 := takenF_le l (i + 1)
       have := restG_end l f (takenF l (i + 1)).2 (takenF_len h1)
       omega
     · have := restG_end l f (i + 1) h1
       omega
theorem rest3F_end {l : List Int} {i : Nat} (h : i ≤ l.length) : i ≤ rest3F l i ∧ rest3F l i ≤ l.length + 1 := restG_end l _ i h
theorem urlG_end (l : List Int) : ∀ (f i : Nat), i ≤ l.length → i ≤ (urlG l f i).2 ∧ (urlG l f i).2 ≤ l.length + 1
 | 0, _, h => ⟨Nat.le_refl _, Nat.le_succ_of_le h⟩
 | f + 1, i, h => by
   unfold urlG
   have hr := rest3F_end h
   split
   · simp only; omega
   · rename_i hc
     have h1 : i < l.length := aF_lt fun e => hc (Or.inl e)
     split
     · have hb := blaF_le l i
       have hbl := blaF_len h
       split
       · have := rest3F_end hbl
         simp only; omega
       · have := urlG_end l f (blaF l i) hbl
         omega
     · split
       · exact hr
       · split
         · split
           · have h2 := takenF_le l (i + 1)
             have := urlG_end l f (takenF l (i + 1)).2 (takenF_len h1)
             simp only; omega
           · exact hr
         · have := urlG_end l f (i + 1) h1
           simp only; omega
theorem urlF_end {l : List Int} {i : Nat} (h : i ≤ l.length) : i ≤ (urlF l i).2 ∧ (urlF l i).2 ≤ l.length + 1 := by
 have h1 := blaF_le l i
 have h2 := urlG_end l (l.length + 2 - blaF l i) (blaF l i) (blaF_len h)
 have h3 : ∀ x : Option (List Int) × Nat, (urlT x).2 = x.2 := fun x => by unfold urlT; split <;> rfl
 unfold urlF
 rw [h3]
 omega
theorem textG_end (l : List Int) (sign : Int) : ∀ (f i : Nat), i ≤ l.length → i ≤ (textG l sign f i).2 ∧ (textG l sign f i).2 ≤ l.length + 1
 | 0, _, h => ⟨Nat.le_refl _, Nat.le_succ_of_le h⟩
 | f + 1, i, h => by
   unfold textG
   split
   · simp only; omega
   · split
     · rename_i hc
       have h1 : i < l.length := aF_lt (by rw [hc]; decide)
       split
       · have := textG_end l sign f (i + 1) h1
         omega
       · split
         · rename_i hd
           have h2 : i + 1 < l.length := aF_lt (by rw [hd]; decide)
           have := textG_end l sign f (i + 2) h2
           omega
         · have h2 := takenF_le l (i + 1)
           have := textG_end l sign f (takenF l (i + 1)).2 (takenF_len h1)
           simp only; omega
     · split
       · simp only; omega
       · rename_i hc
         have h1 : i < l.length := aF_lt fun e => hc (Or.inl e)
         have := textG_end l sign f (i + 1) h1
         simp only; omega
theorem stringF_end {l : List Int} {sign : Int} {i : Nat} (h : i ≤ l.length) : i ≤ (stringF l sign i).2 ∧ (stringF l sign i).2 ≤ l.length + 1 := by
 have h2 := textG_end l sign (l.length + 2 - i) i h
 have h3 : ∀ x : Option (List Int) × Nat, (strT x).2 = x.2 := fun x => by unfold strT; split <;> rfl
 unfold stringF
 rw [h3]
 exact h2
theorem name_step {l : List Int} {i : Nat} (h : beginsI (aF l i) (aF l (i + 1)) (aF l (i + 2)) = true) (hi : i < l.length) : i + 1 ≤ (nameF l i).2 := by
 show i + 1 ≤ (nameG l (l.length + 2 - i) i).2
 rw [show l.length + 2 - i = (l.length + 1 - i) + 1 by omega, nameG]
 split
 · exact (nameG_end l _ (i + 1) hi).1
 · rename_i hn
   split
   · have h1 := takenF_le l (i + 1)
     have := (nameG_end l (l.length + 1 - i) (takenF l (i + 1)).2 (takenF_len hi)).1
     simp only; omega
   · rename_i he
     exfalso
     unfold beginsI at h
     split at h
     · rename_i hc
       exact hn ⟨by rw [hc]; decide, by rw [hc]; decide⟩
     · rw [Bool.or_eq_true] at h
       rcases h with h | h
       · refine hn ⟨fun e => (by rw [e] at h; cases h), ?_⟩
         unfold letterI
         rw [h]; rfl
       · exact he h
theorem digF_step {l : List Int} {i : Nat} (h : digitI (aF l i) = true) : i + 1 ≤ digF l i := by
 have hi := digit_lt h
 unfold digF
 rw [show l.length + 2 - i = (l.length + 1 - i) + 1 by omega, digE, if_pos h]
 exact (digE_len l _ (i + 1) hi).1
theorem figE_step {l : List Int} {i : Nat} (h : numI (aF l i) (aF l (i + 1)) (aF l (i + 2)) = true) (hi : i < l.length) : i + 1 ≤ figE l i ∧ figE l i ≤ l.length := by
 obtain ⟨h1a, h1b⟩ := figS_len (l := l) (i := i) (by omega)
 obtain ⟨h2a, h2b⟩ := digF_len h1b
 obtain ⟨h3a, h3b⟩ := figP_len h2b
 obtain ⟨h4a, h4b⟩ := figX_len h3b
 refine ⟨?_, h4b⟩
 show i + 1 ≤ figX l (figP l (digF l (figS l i)))
 unfold numI at h
 split at h
 · rename_i hs
   have : figS l i = i + 1 := by unfold figS; rw [if_pos hs]
   omega
 · rename_i hs
   have hS : figS l i = i := by unfold figS; rw [if_neg hs]
   rw [hS] at h2a h2b h3a h3b h4a h4b ⊢
   rw [Bool.or_eq_true] at h
   rcases h with h | h
   · have := digF_step h
     omega
   · rw [Bool.and_eq_true, beq_iff_eq] at h
     by_cases hd : digitI (aF l i) = true
     · have := digF_step hd
       omega
     · have hD : digF l i = i := by
        unfold digF
        rw [show l.length + 2 - i = (l.length + 1 - i) + 1 by omega, digE, if_neg hd]
       rw [hD] at h3a h3b h4a h4b ⊢
       have hP : figP l i = digF l (i + 1) := by unfold figP; rw [if_pos h]
       have := digF_len (l := l) (i := i + 1) hi
       omega
theorem wordF_end {l : List Int} {i : Nat} (h : i ≤ l.length) : (nameF l i).2 ≤ (wordF l i).2 ∧ (wordF l i).2 ≤ l.length + 1 := by
 have h1 := nameF_end h
 obtain ⟨⟨s, j⟩, hs⟩ : ∃ S, nameF l i = S := ⟨_, rfl⟩
 unfold wordF
 rw [hs] at h1 ⊢
 simp only at h1 ⊢
 unfold wordT
 by_cases h40 : aF l j ≠ 40
 · rw [if_pos h40]
   simp only; omega
 · rw [if_neg h40]
   have h2 : j < l.length := aF_lt fun e => h40 (by rw [e]; decide)
   by_cases hl : likeS s [117, 114, 108] = false
   · rw [if_pos hl]
     simp only; omega
   · rw [if_neg hl]
     have h3 := twoE_le l (l.length + 2 - (j + 1)) (j + 1)
     have h4 := twoE_len l (l.length + 2 - (j + 1)) (j + 1) h2
     have h5 := urlF_end h4
     simp only
     split <;> (split <;> first | omega | (simp only; omega))
theorem nextF_end {l : List Int} {i : Nat} (h : aF l i ≠ -1) : i + 1 ≤ (nextF l i).2 ∧ (nextF l i).2 ≤ l.length + 2 := by
 have hi := aF_lt h
 unfold nextF
 split
 · simp only; omega
 · split
   · rename_i hb
     have h1 := blaF_step hb
     have h2 := blaF_len (l := l) (i := i) (by omega)
     simp only; omega
   · split
     · have := stringF_end (l := l) (sign := aF l i) (i := i + 1) hi
       omega
     · split
       · have := nameF_end (l := l) (i := i + 1) hi
         simp only; omega
       · split
         · rename_i hn
           have h1 := figE_step hn hi
           unfold figureF
           simp only
           split
           · have := nameF_end h1.2
             simp only; omega
           · split
             · rename_i hp
               simp only; omega
             · simp only; omega
         · split
           · rename_i hc
             have : i + 2 < l.length := aF_lt (by rw [hc.2.2]; decide)
             simp only; omega
           · split
             · rename_i hc
               have : i + 3 < l.length := aF_lt (by rw [hc.2.2.2]; decide)
               simp only; omega
             · split
               · have := nameF_end (l := l) (i := i + 1) hi
                 simp only; omega
               · split
                 · rename_i hb
                   have h1 := name_step hb hi
                   have h2 := wordF_end (l := l) (i := i) (by omega)
                   omega
                 · simp only; omega
end Go.Proofs.YtplnhjmomomphaaGreatDoor

namespace Go.Proofs.YtplnhjmomomphaaGreatDoor
set_option linter.unusedVariables false
set_option linter.unusedSimpArgs false
theorem aF_shift (A l : List Int) (i : Nat) : aF (A ++ l) (A.length + i) = aF l i := by
 unfold aF
 rw [List.getElem?_append_right (by omega), show A.length + i - A.length = i by omega]
theorem len_shift (A l : List Int) (i : Nat) : (A ++ l).length + 2 - (A.length + i) = l.length + 2 - i := by
 rw [List.length_append]
 omega
theorem hexR_shift (A l : List Int) : ∀ (k : Nat) (n : Int) (i : Nat), hexR (A ++ l) k n (A.length + i) = ((hexR l k n i).1, A.length + (hexR l k n i).2)
 | 0, _, _ => rfl
 | k + 1, n, i => by
   rw [hexR, hexR, aF_shift]
   cases hexI (aF l i) with
   | none => rfl
   | some x => exact hexR_shift A l k _ (i + 1)
theorem takenF_shift (A l : List Int) (i : Nat) : takenF (A ++ l) (A.length + i) = ((takenF l i).1, A.length + (takenF l i).2) := by
 unfold takenF
 rw [aF_shift, hexR_shift, aF_shift]
 cases hexI (aF l i) with
 | none => simp only []; split <;> rfl
 | some x => simp only []; split <;> split <;> rfl
theorem nameG_shift (A l : List Int) : ∀ (f i : Nat), nameG (A ++ l) f (A.length + i) = ((nameG l f i).1, A.length + (nameG l f i).2)
 | 0, _ => rfl
 | f + 1, i => by
   rw [nameG, nameG, aF_shift, show A.length + i + 1 = A.length + (i + 1) by omega, aF_shift, takenF_shift, nameG_shift A l f (i + 1), nameG_shift A l f _]
   split
   · rfl
   · split <;> rfl
theorem nameF_shift (A l : List Int) (i : Nat) : nameF (A ++ l) (A.length + i) = ((nameF l i).1, A.length + (nameF l i).2) := by
 unfold nameF
 rw [len_shift, nameG_shift]
theorem digE_shift (A l : List Int) : ∀ (f i : Nat), digE (A ++ l) f (A.length + i) = A.length + digE l f i
 | 0, _ => rfl
 | f + 1, i => by
   rw [digE, digE, aF_shift, show A.length + i + 1 = A.length + (i + 1) by omega, digE_shift A l f (i + 1)]
   split <;> rfl
theorem digF_shift (A l : List Int) (i : Nat) : digF (A ++ l) (A.length + i) = A.length + digF l i := by
 unfold digF
 rw [len_shift, digE_shift]
theorem blaE_shift (A l : List Int) : ∀ (f i : Nat), blaE (A ++ l) f (A.length + i) = A.length + blaE l f i
 | 0, _ => rfl
 | f + 1, i => by
   rw [blaE, blaE, aF_shift, show A.length + i + 1 = A.length + (i + 1) by omega, blaE_shift A l f (i + 1)]
   split <;> rfl
theorem blaF_shift (A l : List Int) (i : Nat) : blaF (A ++ l) (A.length + i) = A.length + blaF l i := by
 unfold blaF
 rw [len_shift, blaE_shift]
theorem figS_shift (A l : List Int) (i : Nat) : figS (A ++ l) (A.length + i) = A.length + figS l i := by
 unfold figS
 rw [aF_shift]
 split <;> rfl
theorem figP_shift (A l : List Int) (i : Nat) : figP (A ++ l) (A.length + i) = A.length + figP l i := by
 unfold figP
 rw [aF_shift, show A.length + i + 1 = A.length + (i + 1) by omega, aF_shift, digF_shift]
 split <;> rfl
theorem figX_shift (A l : List Int) (i : Nat) : figX (A ++ l) (A.length + i) = A.length + figX l i := by
 unfold figX
 rw [aF_shift, show A.length + i + 1 = A.length + (i + 1) by omega, show A.length + i + 2 = A.length + (i + 2) by omega, aF_shift, aF_shift, digF_shift, digF_shift]
 split
 · split
   · split <;> rfl
   · split <;> rfl
 · rfl
theorem figE_shift (A l : List Int) (i : Nat) : figE (A ++ l) (A.length + i) = A.length + figE l i := by
 unfold figE
 rw [figS_shift, digF_shift, figP_shift, figX_shift]
theorem figureF_shift (A l : List Int) (i : Nat) : figureF (A ++ l) (A.length + i) = ((figureF l i).1, A.length + (figureF l i).2) := by
 have hd : ((A ++ l).drop (A.length + i)).take (A.length + figE l i - (A.length + i)) = (l.drop i).take (figE l i - i) := by
  rw [show A.length + figE l i - (A.length + i) = figE l i - i by omega, List.drop_append, List.drop_eq_nil_of_le (by omega : A.length ≤ A.length + i)]
  simp
 unfold figureF
 rw [figE_shift]
 simp only [hd]
 rw [show A.length + figE l i + 1 = A.length + (figE l i + 1) by omega, show A.length + figE l i + 2 = A.length + (figE l i + 2) by omega, aF_shift, aF_shift, aF_shift, nameF_shift]
 split
 · rfl
 · split <;> rfl
theorem skipE_shift (A l : List Int) : ∀ (f i : Nat), skipE (A ++ l) f (A.length + i) = A.length + skipE l f i
 | 0, _ => rfl
 | f + 1, i => by
   rw [skipE, skipE, aF_shift, show A.length + i + 1 = A.length + (i + 1) by omega, aF_shift, skipE_shift A l f (i + 1)]
   split <;> rfl
theorem remE_shift (A l : List Int) : ∀ (f i : Nat), remE (A ++ l) f (A.length + i) = A.length + remE l f i
 | 0, _ => rfl
 | f + 1, i => by
   rw [remE, remE, aF_shift, show A.length + i + 1 = A.length + (i + 1) by omega, aF_shift, show A.length + i + 2 = A.length + (i + 2) by omega, len_shift, skipE_shift, Nat.add_assoc, remE_shift A l f _]
   split <;> rfl
theorem remF_shift (A l : List Int) (i : Nat) : remF (A ++ l) (A.length + i) = A.length + remF l i := by
 unfold remF
 rw [len_shift, remE_shift]
theorem twoE_shift (A l : List Int) : ∀ (f i : Nat), twoE (A ++ l) f (A.length + i) = A.length + twoE l f i
 | 0, _ => rfl
 | f + 1, i => by
   rw [twoE, twoE, aF_shift, show A.length + i + 1 = A.length + (i + 1) by omega, aF_shift, twoE_shift A l f (i + 1)]
   split <;> rfl
theorem restG_shift (A l : List Int) : ∀ (f i : Nat), restG (A ++ l) f (A.length + i) = A.length + restG l f i
 | 0, _ => rfl
 | f + 1, i => by
   rw [restG, restG, aF_shift, show A.length + i + 1 = A.length + (i + 1) by omega, aF_shift, takenF_shift, restG_shift A l f (i + 1), restG_shift A l f _]
   split
   · rfl
   · split <;> rfl
theorem rest3F_shift (A l : List Int) (i : Nat) : rest3F (A ++ l) (A.length + i) = A.length + rest3F l i := by
 unfold rest3F
 rw [len_shift, restG_shift]
theorem urlG_shift (A l : List Int) : ∀ (f i : Nat), urlG (A ++ l) f (A.length + i) = ((urlG l f i).1, A.length + (urlG l f i).2)
 | 0, _ => rfl
 | f + 1, i => by
   rw [urlG, urlG, aF_shift, show A.length + i + 1 = A.length + (i + 1) by omega, aF_shift, blaF_shift, aF_shift, rest3F_shift, rest3F_shift, takenF_shift, urlG_shift A l f (i + 1), urlG_shift A l f _, urlG_shift A l f _]
   split
   · rfl
   · split
     · split <;> rfl
     · split
       · rfl
       · split
         · split <;> rfl
         · rfl
theorem urlF_shift (A l : List Int) (i : Nat) : urlF (A ++ l) (A.length + i) = ((urlF l i).1, A.length + (urlF l i).2) := by
 unfold urlF
 rw [blaF_shift, len_shift, urlG_shift]
 unfold urlT
 cases (urlG l (l.length + 2 - blaF l i) (blaF l i)).1 <;> rfl
theorem textG_shift (A l : List Int) (sign : Int) : ∀ (f i : Nat), textG (A ++ l) sign f (A.length + i) = ((textG l sign f i).1, A.length + (textG l sign f i).2)
 | 0, _ => rfl
 | f + 1, i => by
   rw [textG, textG, aF_shift, show A.length + i + 1 = A.length + (i + 1) by omega, show A.length + i + 2 = A.length + (i + 2) by omega, aF_shift, takenF_shift, textG_shift A l sign f (i + 1), textG_shift A l sign f (i + 2), textG_shift A l sign f _]
   split
   · rfl
   · split
     · split
       · rfl
       · split <;> rfl
     · split <;> rfl
theorem stringF_shift (A l : List Int) (sign : Int) (i : Nat) : stringF (A ++ l) sign (A.length + i) = ((stringF l sign i).1, A.length + (stringF l sign i).2) := by
 unfold stringF
 rw [len_shift, textG_shift]
 unfold strT
 cases (textG l sign (l.length + 2 - i) i).1 <;> rfl
theorem wordT_shift (A l : List Int) (s : List UInt8) (j : Nat) : wordT (A ++ l) s (A.length + j) = ((wordT l s j).1, A.length + (wordT l s j).2) := by
 unfold wordT
 rw [aF_shift, show A.length + j + 1 = A.length + (j + 1) by omega, len_shift, twoE_shift]
 split
 · rfl
 · split
   · rfl
   · simp only []
     rw [aF_shift, show A.length + twoE l (l.length + 2 - (j + 1)) (j + 1) + 1 = A.length + (twoE l (l.length + 2 - (j + 1)) (j + 1) + 1) by omega, aF_shift, urlF_shift]
     split <;> split <;> rfl
theorem wordF_shift (A l : List Int) (i : Nat) : wordF (A ++ l) (A.length + i) = ((wordF l i).1, A.length + (wordF l i).2) := by
 unfold wordF
 rw [nameF_shift, wordT_shift]
theorem nextF_shift (A l : List Int) (i : Nat) : nextF (A ++ l) (A.length + i) = ((nextF l i).1, A.length + (nextF l i).2) := by
 unfold nextF
 simp only [aF_shift, show A.length + i + 1 = A.length + (i + 1) by omega, show A.length + i + 2 = A.length + (i + 2) by omega, show A.length + i + 3 = A.length + (i + 3) by omega, show A.length + i + 4 = A.length + (i + 4) by omega, blaF_shift, stringF_shift, nameF_shift, figureF_shift, wordF_shift]
 cases singleF (aF l i) with
 | some k => rfl
 | none =>
   simp only []
   repeat (first | rfl | split)
theorem tokG_shift (A l : List Int) : ∀ (f i : Nat), tokG (A ++ l) f (A.length + i) = tokG l f i
 | 0, _ => rfl
 | f + 1, i => by
   rw [tokG, tokG, remF_shift, aF_shift, nextF_shift, tokG_shift A l f _]
/-- a piece that is one token, ahead of the rest -/
theorem tok_piece {P R : List Int} {t : Tk} {f : Nat} (h0 : aF (P ++ R) 0 ≠ -1) (hr : remF (P ++ R) 0 = 0) (hn : nextF (P ++ R) 0 = (t, P.length)) : tokG (P ++ R) (f + 1) 0 = t :: tokG R f 0 := by
 have h := tokG_shift P R f 0
 rw [Nat.add_zero] at h
 rw [tokG, hr, if_neg h0, hn, h]
theorem rem_none {l : List Int} (h : aF l 0 ≠ 47) : remF l 0 = 0 := by
 unfold remF
 rw [show l.length + 2 - 0 = l.length + 1 + 1 by omega, remE, if_neg (fun e => h e.1)]
theorem aF_out {l : List Int} {i : Nat} (h : l.length ≤ i) : aF l i = -1 := by
 unfold aF
 rw [List.getElem?_eq_none h]
theorem skip_le (l : List Int) : ∀ (f i : Nat), i ≤ skipE l f i
 | 0, _ => Nat.le_refl _
 | f + 1, i => by
   rw [skipE]
   have := skip_le l f (i + 1)
   split <;> omega
theorem rem_le (l : List Int) : ∀ (f i : Nat), i ≤ remE l f i
 | 0, _ => Nat.le_refl _
 | f + 1, i => by
   rw [remE]
   have h1 := skip_le l (l.length + 2 - (i + 2)) (i + 2)
   have h2 := rem_le l f (skipE l (l.length + 2 - (i + 2)) (i + 2) + 2)
   split <;> omega
/-- more fuel makes no difference -/
theorem tokG_fuel (l : List Int) : ∀ (n i f f' : Nat), l.length < i + n → n ≤ f → n ≤ f' → tokG l f i = tokG l f' i
 | 0, i, f, f', h, _, _ => by
   have hz : ∀ g, tokG l g i = [] := fun g => by
    cases g with
    | zero => rfl
    | succ g =>
      have := rem_le l (l.length + 2 - i) i
      rw [tokG, if_pos (aF_out (by unfold remF; omega))]
   rw [hz, hz]
 | n + 1, i, f + 1, f' + 1, h, h1, h2 => by
   rw [tokG, tokG]
   split
   · rfl
   · rename_i hne
     have e := nextF_end hne
     have r : i ≤ remF l i := rem_le l _ i
     rw [tokG_fuel l n _ f f' (by omega) (by omega) (by omega)]
/-- the first token of a text, and the tokens of the rest -/
theorem tokens_piece {P R : List Int} {t : Tk} (hP : P ≠ []) (h0 : aF (P ++ R) 0 ≠ -1) (hr : remF (P ++ R) 0 = 0) (hn : nextF (P ++ R) 0 = (t, P.length)) : tokensF (P ++ R) = t :: tokensF R := by
 have hl : 0 < P.length := List.length_pos_iff.2 hP
 unfold tokensF
 rw [show (P ++ R).length + 2 = ((P ++ R).length + 1) + 1 by omega, tok_piece h0 hr hn]
 congr 1
 exact tokG_fuel R (R.length + 1) 0 _ _ (by omega) (by rw [List.length_append]; omega) (by omega)
theorem tokens_nil : tokensF [] = [] := rfl
/-- one character that is a token: a parenthesis, a comma -/
theorem tokens_single {c : Int} {k : Int} {R : List Int} (hc : isC c = true) (hk : singleF c = some k) (h47 : c ≠ 47) (h1 : c ≠ -1) : tokensF (c :: R) = tok0 k [] :: tokensF R := by
 have ha : aF (c :: R) 0 = c := by
  unfold aF
  simp [hc]
 refine tokens_piece (P := [c]) (R := R) (by simp) ?_ ?_ ?_
 · show aF (c :: R) 0 ≠ -1
   rw [ha]
   exact h1
 · exact rem_none (by show aF (c :: R) 0 ≠ 47; rw [ha]; exact h47)
 · show nextF (c :: R) 0 = _
   unfold nextF
   rw [ha, hk]
   rfl
theorem aF_cons (c : Int) (R : List Int) (hc : isC c = true) : aF (c :: R) 0 = c := by
 unfold aF
 simp [hc]
theorem aF_next (c : Int) (R : List Int) (i : Nat) : aF (c :: R) (i + 1) = aF R i := rfl
/-- one blank -/
theorem tokens_blank {R : List Int} (h : blankI (aF R 0) = false) : tokensF (32 :: R) = tok0 13 [] :: tokensF R := by
 have ha : aF (32 :: R) 0 = 32 := aF_cons 32 R rfl
 refine tokens_piece (P := [32]) (R := R) (by simp) ?_ (rem_none (by show aF (32 :: R) 0 ≠ 47; rw [ha]; decide)) ?_
 · show aF (32 :: R) 0 ≠ -1
   rw [ha]
   decide
 · show nextF (32 :: R) 0 = _
   have hb : blaF (32 :: R) 0 = 1 := by
    unfold blaF
    rw [show (32 :: R).length + 2 - 0 = R.length + 1 + 1 + 1 by simp, blaE, ha, if_pos (by decide), blaE, aF_next, h]
    rfl
   unfold nextF
   rw [ha, hb]
   rfl
/-- a sign or a stroke with a blank behind it -/
theorem tokens_op {c : Int} {R : List Int} (hc : c = 43 ∨ c = 45 ∨ c = 42 ∨ c = 47) : tokensF (c :: 32 :: R) = tok0 9 (encF [c]) :: tokensF (32 :: R) := by
 have hic : isC c = true := by rcases hc with rfl | rfl | rfl | rfl <;> rfl
 have ha : aF (c :: 32 :: R) 0 = c := aF_cons c _ hic
 have hb : aF (c :: 32 :: R) 1 = 32 := aF_cons 32 R rfl
 refine tokens_piece (P := [c]) (R := 32 :: R) (by simp) ?_ ?_ ?_
 · show aF (c :: 32 :: R) 0 ≠ -1
   rw [ha]
   rcases hc with rfl | rfl | rfl | rfl <;> decide
 · show remF (c :: 32 :: R) 0 = 0
   unfold remF
   rw [show (c :: 32 :: R).length + 2 - 0 = R.length + 1 + 1 + 1 + 1 by simp, remE, hb, if_neg (fun e => absurd e.2 (by decide))]
 · show nextF (c :: 32 :: R) 0 = _
   unfold nextF
   rw [ha, Nat.zero_add, hb]
   rcases hc with rfl | rfl | rfl | rfl <;> simp [singleF, blankI, numI, digitI, beginsI, firstI, escI]
/-- small letters -/
def smallB (s : List Int) : Bool := s.all fun c => decide (97 ≤ c) && decide (c ≤ 122)
theorem nameG_small : ∀ (s R : List Int) (f : Nat), smallB s = true → s.length < f → aF R 0 = 40 → nameG (s ++ R) f 0 = (s, s.length)
 | [], R, f + 1, _, _, h => by
   rw [List.nil_append, nameG, h, if_neg (by decide), if_neg (by simp [escI])]
   rfl
 | c :: s, R, f + 1, hs, hf, h => by
   simp only [smallB, List.all_cons, Bool.and_eq_true, decide_eq_true_eq] at hs
   have hc : isC c = true := by
    unfold isC
    simp
    omega
   have ih := nameG_small s R f hs.2 (by simpa using hf) h
   have e := nameG_shift [c] (s ++ R) f 0
   have ha : aF (c :: (s ++ R)) 0 = c := aF_cons c _ hc
   rw [List.cons_append, nameG, ha, if_pos ⟨by omega, by unfold letterI firstI; simp; omega⟩]
   have e2 : nameG (c :: (s ++ R)) f (0 + 1) = (s, s.length + 1) := by
    have : nameG ([c] ++ (s ++ R)) f ([c].length + 0) = _ := e
    rw [ih] at this
    simp only [List.length_singleton, Nat.add_zero, List.singleton_append] at this
    rw [Nat.zero_add, this, Nat.add_comm]
   rw [e2]
   rfl
/-- a function's name of small letters, with its parenthesis -/
theorem tokens_func {s R : List Int} (hs : smallB s = true) (h0 : s ≠ []) (hu : likeS (encF s) [117, 114, 108] = false) : tokensF (s ++ 40 :: R) = tok0 2 (encF s) :: tokensF R := by
 have h40 : aF (40 :: R) 0 = 40 := aF_cons 40 R rfl
 have hn : nameF (s ++ 40 :: R) 0 = (encF s, s.length) := by
  unfold nameF
  rw [nameG_small s (40 :: R) _ hs (by simp; omega) h40]
 have he : aF (s ++ 40 :: R) s.length = 40 := by
  have := aF_shift s (40 :: R) 0
  rw [Nat.add_zero, h40] at this
  exact this
 match s, h0 with
 | c :: q, _ =>
   simp only [smallB, List.all_cons, Bool.and_eq_true, decide_eq_true_eq] at hs
   have hc : isC c = true := by
    unfold isC
    simp
    omega
   have ha : aF (c :: q ++ 40 :: R) 0 = c := aF_cons c _ hc
   have e : c :: q ++ 40 :: R = (c :: q ++ [40]) ++ R := by simp
   have hw : nextF (c :: q ++ 40 :: R) 0 = (tok0 2 (encF (c :: q)), (c :: q).length + 1) := by
    unfold nextF
    rw [ha]
    have hsg : singleF c = none := by
     unfold singleF
     repeat (first | rw [if_neg (by omega)] | rfl)
    have hbl : blankI c = false := by unfold blankI; simp; omega
    have hnm : numI c (aF (c :: q ++ 40 :: R) (0 + 1)) (aF (c :: q ++ 40 :: R) (0 + 2)) = false := by
     unfold numI
     rw [if_neg (by omega)]
     unfold digitI
     simp
     omega
    have hbg : beginsI c (aF (c :: q ++ 40 :: R) (0 + 1)) (aF (c :: q ++ 40 :: R) (0 + 2)) = true := by
     unfold beginsI
     rw [if_neg (by omega)]
     unfold firstI
     simp
     omega
    rw [hsg]
    simp only []
    rw [hbl, if_neg (by simp), if_neg (by omega), if_neg (by omega), hnm, if_neg (by simp), if_neg (by omega), if_neg (by omega), if_neg (by omega), hbg, if_pos rfl]
    unfold wordF
    rw [hn]
    unfold wordT
    rw [he, if_neg (by simp), hu, if_pos rfl]
   rw [e] at ha hw ⊢
   refine tokens_piece (by simp) (by rw [ha]; omega) (rem_none (by rw [ha]; omega)) ?_
   rw [hw]
   simp
end Go.Proofs.YtplnhjmomomphaaGreatDoor
