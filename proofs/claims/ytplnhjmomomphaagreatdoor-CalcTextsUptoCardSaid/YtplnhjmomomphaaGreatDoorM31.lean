/- Of my texts: PlainR. -/
import Derived.Test.YtplnhjmomomphaaGreatDoorM25
import Derived.Test.YtplnhjmomomphaaGreatDoorM30
namespace Go.Proofs.YtplnhjmomomphaaGreatDoor
set_option linter.unusedVariables false
set_option linter.unusedSimpArgs false
open Go.RowKit Go.Lib
theorem fmtO_any (u : Nat) (w : World) (hu64 : u < 18446744073709551616) (htab : Pow10 w) :
 Calls Tryz.prog 66 #[.int .u64 u, .int .i64 10] w fun e w' => e = .returned (.string ⟨(Lib.decDigits u).toArray⟩) ∧ Below w.heap.size w w' := by
 have HF := Lib.hid (fmtU_any u w hu64 htab)
 clear htab
 go_enter Tryz.func66, Tryz.ntmps66
 go_wp2_with fail
 ((with_reducible refine (HF.out).mono ?_); rintro e w' ⟨rfl, hbw⟩)
 obtain ⟨m, rfl⟩ := grow_mk hbw
 clear hbw
 go_wp2_with fail
 go_ret
 exact ⟨rfl, below_grow (Below.refl _ _) m⟩
theorem trim_back {D : List UInt8} {c : Nat} (h : c < D.length) (hc : D[c] = 48) : trimR (D.take (c + 1)) = trimR (D.take c) := by
 rw [List.take_succ_eq_append_getElem h, hc, trimR_nought]
theorem trim_end {D : List UInt8} {c : Nat} (h : c < D.length) (hc : D[c] ≠ 48) : (trimR (D.take (c + 1))).length = c + 1 := by
 rw [List.take_succ_eq_append_getElem h, trimR_stop hc]
 simp; omega
theorem pad_done {D T : List UInt8} {k j : Nat} (hT : T = List.replicate j 48 ++ D) (hj : j ≤ k + 1 - D.length) (h : k < T.length) : padF D k = T := by
 have hl : T.length = j + D.length := by rw [hT]; simp
 unfold padF
 split
 · rw [hT, show j = k + 1 - D.length by omega]
 · rw [hT, show j = 0 by omega]; rfl
theorem refL_bound {d n num q : Nat} (h0 : d ≤ 9223372036854775807) (hn : n ≤ 9223372036854775807) (hd : 1 ≤ d) (h : refL n d 0 = some (num, q)) : num ≤ 9223372036854775807 ∧ q ≤ 62 :=
 ⟨(refL_le d n 0 num q hn h).1, refL_62 hd h0 h⟩
/-- what is written of a number and its places -/
def outN (neg whole : Bool) : Option (Nat × Nat) → Option (List UInt8)
 | none => none
 | some (num, k) => if 18 < (trimR (decDigits num)).length then none else some (plainT neg num k whole)
theorem plainF_out {r : Rt} {whole : Bool} (hm : ¬ (mayB r = false ∨ (whole = true ∧ 1 < r.2))) (h0 : r.2 ≠ 0) : plainF r whole = outN (decide (r.1 < 0)) whole (refL r.1.natAbs r.2.toNat 0) := by
 unfold plainF
 rw [if_neg hm, if_neg h0]
 cases refL r.1.natAbs r.2.toNat 0 <;> rfl
set_option maxRecDepth 20000 in
set_option maxHeartbeats 8000000 in
theorem rplain_any (r : Rt) (whole : Bool) (w : World) (h64 : Is64 r) (hpow : Pow10 w) :
 Calls Tryz.prog 47 #[rv r, .bool whole] w fun e w' => e = .returned (outP (plainF r whole)) ∧ Below w.heap.size w w' := by
 obtain ⟨PF, hPF⟩ : ∃ x, plainF r whole = x := ⟨_, rfl⟩
 rw [hPF]
 have hmay := fun w => rmay_any r w h64
 have hmag := fun w => mag_any r.1 w h64.1 h64.2.1
 obtain ⟨a, b⟩ := r
 obtain ⟨b1, b2, b3, b4⟩ := h64
 simp only at b1 b2 b3 b4 hmag
 have HM := Lib.hid hmay
 have HS := Lib.hid hmag
 have HPOW := Lib.hid hpow
 have HPF := Lib.hid hPF
 clear hmay hmag hpow hPF
 cases hm : mayB (a, b) with
 | false =>
   have HF := Lib.hid (show PF = none by rw [← HPF.out]; unfold plainF; rw [if_pos (Or.inl hm)])
   have hmm := HM.out
   rw [hm] at hmm
   have HMM := Lib.hid hmm
   clear hmm HM HS
   go_enter Tryz.func47, Tryz.ntmps47
   go_wp2_with fail
   ((with_reducible refine (HMM.out _).mono ?_); rintro e w' ⟨rfl, hbw⟩)
   obtain ⟨m1, rfl⟩ := grow_mk hbw
   clear hbw
   go_wp2_with fail
   exact bodyPost_ret (v := .tuple #[.string ⟨#[]⟩, .int .i64 1]) (by simp [results, Tryz.results47, go_sem]) rfl ⟨(by rw [HF.out]; rfl), (by repeat (first | with_reducible exact below_box _ _ | with_reducible refine below_grow ?_ _))⟩
 | true =>
   have hmm := HM.out
   rw [hm] at hmm
   have HMM := Lib.hid hmm
   clear hmm HM
   by_cases hw : whole = true ∧ 1 < b
   · have HF := Lib.hid (show PF = none by rw [← HPF.out]; unfold plainF; rw [if_pos (Or.inr hw)])
     obtain ⟨rfl, hw1⟩ := hw
     have gw : decide ((1 : Int) < b) = true := by simpa using hw1
     go_enter Tryz.func47, Tryz.ntmps47
     go_wp2_with fail
     ((with_reducible refine (HMM.out _).mono ?_); rintro e w' ⟨rfl, hbw⟩)
     obtain ⟨m1, rfl⟩ := grow_mk hbw
     clear hbw
     have hr := (Blk.new w 24 #[.int .i64 a, .int .i64 b]).grow m1
     have hb : Below w.heap.size w (grow (w.alloc (.cells #[.int .i64 a, .int .i64 b] 24)) m1) := below_grow (below_box _ _) m1
     generalize grow _ m1 = wa at *
     have cr0 : wa.cell? ⟨w.heap.size, 0, none⟩ = some (.int .i64 a) := (hr).cell 0
     have fcr0 := (hr).frozen 0
     have cr1 : wa.cell? ⟨w.heap.size, 1, none⟩ = some (.int .i64 b) := (hr).cell 1
     have fcr1 := (hr).frozen 1
     have lcr := (hr).lt
     go_wp2_with fail
     exact bodyPost_ret (v := .tuple #[.string ⟨#[]⟩, .int .i64 1]) (by simp [results, Tryz.results47, go_sem]) rfl ⟨(by rw [HF.out]; rfl), hb⟩
   · have hmp : ¬ (mayB (a, b) = false ∨ (whole = true ∧ 1 < b)) := by rw [not_or]; exact ⟨by rw [hm]; simp, hw⟩
     have gw : whole = true → decide ((1 : Int) < b) = false := fun h => by
      rw [decide_eq_false_iff_not]
      exact fun h2 => hw ⟨h, h2⟩
     by_cases hb0 : b = 0
     · subst hb0
       have HF := Lib.hid (show PF = some (if whole then ninesT else farT) by rw [← HPF.out]; unfold plainF; rw [if_neg hmp, if_pos rfl])
       cases whole with
       | true =>
         go_enter Tryz.func47, Tryz.ntmps47
         go_wp2_with fail
         ((with_reducible refine (HMM.out _).mono ?_); rintro e w' ⟨rfl, hbw⟩)
         obtain ⟨m1, rfl⟩ := grow_mk hbw
         clear hbw
         have hr := (Blk.new w 24 #[.int .i64 a, .int .i64 0]).grow m1
         have hb : Below w.heap.size w (grow (w.alloc (.cells #[.int .i64 a, .int .i64 0] 24)) m1) := below_grow (below_box _ _) m1
         generalize grow _ m1 = wa at *
         have cr0 : wa.cell? ⟨w.heap.size, 0, none⟩ = some (.int .i64 a) := (hr).cell 0
         have fcr0 := (hr).frozen 0
         have cr1 : wa.cell? ⟨w.heap.size, 1, none⟩ = some (.int .i64 0) := (hr).cell 1
         have fcr1 := (hr).frozen 1
         have lcr := (hr).lt
         go_wp2_with fail
         exact bodyPost_ret (v := .tuple #[.string ⟨(List.replicate 20 57).toArray⟩, .int .i64 0]) (by simp [results, Tryz.results47, go_sem]) rfl ⟨(by rw [HF.out]; rfl), hb⟩
       | false =>
         go_enter Tryz.func47, Tryz.ntmps47
         go_wp2_with fail
         ((with_reducible refine (HMM.out _).mono ?_); rintro e w' ⟨rfl, hbw⟩)
         obtain ⟨m1, rfl⟩ := grow_mk hbw
         clear hbw
         have hr := (Blk.new w 24 #[.int .i64 a, .int .i64 0]).grow m1
         have hb : Below w.heap.size w (grow (w.alloc (.cells #[.int .i64 a, .int .i64 0] 24)) m1) := below_grow (below_box _ _) m1
         generalize grow _ m1 = wa at *
         have cr0 : wa.cell? ⟨w.heap.size, 0, none⟩ = some (.int .i64 a) := (hr).cell 0
         have fcr0 := (hr).frozen 0
         have cr1 : wa.cell? ⟨w.heap.size, 1, none⟩ = some (.int .i64 0) := (hr).cell 1
         have fcr1 := (hr).frozen 1
         have lcr := (hr).lt
         go_wp2_with fail
         exact bodyPost_ret (v := .tuple #[.string ⟨#[49, 101, 57, 57]⟩, .int .i64 0]) (by simp [results, Tryz.results47, go_sem]) rfl ⟨(by rw [HF.out]; rfl), hb⟩
     · have hs : sureB (a, b) = true := by
        simp only [mayB, Bool.or_eq_true, Bool.and_eq_true, decide_eq_true_eq] at hm
        rcases hm with hh | hh
        · exact absurd hh.2 hb0
        · exact hh
       have hb1 := (sure_parts hs).1
       simp only at hb1
       have hsz : a.natAbs ≤ 9223372036854775807 := by
        have := (sure_parts hs).2
        simp only at this
        omega
       obtain ⟨d, rfl⟩ : ∃ d : Nat, b = (d : Int) := ⟨b.toNat, by omega⟩
       obtain ⟨n, hn⟩ : ∃ n, a.natAbs = n := ⟨_, rfl⟩
       rw [hn] at hsz
       obtain ⟨X, hX⟩ : ∃ x, refL n d 0 = x := ⟨_, rfl⟩
       have hpl : PF = outN (decide (a < 0)) whole X := by
        rw [← HPF.out, plainF_out hmp hb0]
        show outN (decide (a < 0)) whole (refL a.natAbs (d : Int).toNat 0) = _
        rw [Int.toNat_natCast, hn, hX]
       have hz := HS.out
       rw [hn] at hz
       have HZ := Lib.hid hz
       have HF := Lib.hid hpl
       have g0 : ((d : Int) == 0) = false := by rw [beq_eq_false_iff_ne]; exact hb0
       have iw : IntKind.u64.wrap (d : Int) = (d : Int) := by rw [IntKind.wrap_u64]; omega
       have hd1 : 1 ≤ d := by omega
       have hd63 : d ≤ 9223372036854775807 := by omega
       have HBD := Lib.hid (fun num q => refL_bound (num := num) (q := q) hd63 hsz hd1)
       have HX := Lib.hid hX
       have HWK := Lib.hid (fun h : whole = true => (show d = 1 by have := gw h; rw [decide_eq_false_iff_not] at this; omega))
       clear hz hpl HS HPF hs hm hmp hX hn hb0
       cases whole
       all_goals
        first | (have gw2 := gw rfl) | skip
        clear gw
        go_enter Tryz.func47, Tryz.ntmps47
        go_wp2_with fail
        ((with_reducible refine (HMM.out _).mono ?_); rintro e w' ⟨rfl, hbw⟩)
        obtain ⟨m1, rfl⟩ := grow_mk hbw
        clear hbw
        have hr := (Blk.new w 24 #[.int .i64 a, .int .i64 d]).grow m1
        have hb : Below w.heap.size w (grow (w.alloc (.cells #[.int .i64 a, .int .i64 d] 24)) m1) := below_grow (below_box _ _) m1
        generalize grow _ m1 = wa at *
        have cr0 : wa.cell? ⟨w.heap.size, 0, none⟩ = some (.int .i64 a) := (hr).cell 0
        have fcr0 := (hr).frozen 0
        have cr1 : wa.cell? ⟨w.heap.size, 1, none⟩ = some (.int .i64 d) := (hr).cell 1
        have fcr1 := (hr).frozen 1
        have lcr := (hr).lt
        go_upto_region 7 with fail
        refine wp_region_grow (by kernel_rfl) (by kernel_rfl) ?_
        repeat (go_big_quiet_step ((first | (go_at_call 65; with_reducible exact calls_grow_same (HZ.out _)))))
        refine wpQuiet_nil ?_
        rintro _ ⟨m2, rfl⟩
        go_wp2_with fail
        replace hb := below_grow hb m2
        replace hr := hr.grow m2
        generalize grow wa m2 = wb at *
        go_loopg [6, 7, 8] d (fun q s6 s7 s8 wr => ∃ (v e p : Nat), s6 = .int .u64 v ∧ s7 = .int .u64 e ∧ s8 = .int .i64 p ∧ wr = wb ∧ Hid (refL v e p = X) ∧ 1 ≤ e ∧ e ≤ d ∧ p + e ≤ d ∧ v ≤ 9223372036854775807 ∧ e ≤ q)
        case atStart => exact ⟨n, d, 0, rfl, rfl, rfl, rfl, HX, hd1, Nat.le_refl _, by omega, hsz, Nat.le_refl _⟩
        case round =>
         obtain ⟨v, e, p, rfl, rfl, rfl, rfl, hx, e1, e2, e3, v1, hq⟩ := hrel
         by_cases he : 1 < e
         · have ge : decide ((1 : Int) < (e : Int)) = true := by simp; omega
           obtain ⟨r2, hr2⟩ : ∃ x, e % 2 = x := ⟨_, rfl⟩
           obtain ⟨r5, hr5⟩ : ∃ x, e % 5 = x := ⟨_, rfl⟩
           obtain ⟨r10, hr10⟩ : ∃ x, e % 10 = x := ⟨_, rfl⟩
           have i2 : (e : Int) % 2 = (r2 : Int) := by omega
           have i5 : (e : Int) % 5 = (r5 : Int) := by omega
           have i10 : (e : Int) % 10 = (r10 : Int) := by omega
           have hb1 : p ≤ 9223372036854775806 := by omega
           by_cases hA : r2 ≠ 0 ∧ r5 ≠ 0
           · have k2n : ((r2 : Int) != 0) = true := by simp; omega
             have k2 : ((r2 : Int) == 0) = false := by rw [beq_eq_false_iff_ne]; omega
             have k5n : ((r5 : Int) != 0) = true := by simp; omega
             have k5 : ((r5 : Int) == 0) = false := by rw [beq_eq_false_iff_ne]; omega
             have hX0 : X = none := by rw [← hx.out]; exact refL_none he (by omega) (by omega)
             have HG := Lib.hid (show PF = none by rw [HF.out, hX0]; rfl)
             clear hX0 hx hr2 hr5 hr10
             go_wp2_with fail
             exact bodyPost_ret (v := .tuple #[.string ⟨#[]⟩, .int .i64 1]) (by simp [results, Tryz.results47, go_sem]) rfl ⟨(by rw [HG.out]; rfl), hb⟩
           · by_cases hB : r10 = 0
             · have k10 : ((r10 : Int) == 0) = true := by rw [beq_iff_eq]; omega
               have hx2 : refL v (e / 10) (p + 1) = X := by rw [← hx.out]; exact (refL_ten he (by omega)).symm
               obtain ⟨e', he'⟩ : ∃ x, e / 10 = x := ⟨_, rfl⟩
               have ie : (e : Int) / 10 = (e' : Int) := by omega
               rw [he'] at hx2
               have HX2 := Lib.hid hx2
               have w1 : 1 ≤ e' := by omega
               have w2 : e' < e := by omega
               have ways : ((r2 : Int) != 0) = false ∨ ((r2 : Int) != 0) = true ∧ ((r5 : Int) != 0) = false := by
                by_cases h : r2 = 0
                · exact Or.inl (by simp; omega)
                · exact Or.inr ⟨by simp; omega, by simp; omega⟩
               clear hx2 hx hr2 hr5 hr10 he' hA hB
               rcases ways with k2 | ⟨k2, k5⟩
               all_goals
                go_wp2_with fail
                go_roundg e'
                case measure => omega
                case rel => exact ⟨v, e', p + 1, rfl, rfl, by go_num, rfl, HX2, w1, by omega, by omega, v1, Nat.le_refl _⟩
             · have k10 : ((r10 : Int) == 0) = false := by rw [beq_eq_false_iff_ne]; omega
               by_cases hC : r5 = 0
               · have k5n : ((r5 : Int) != 0) = false := by simp; omega
                 have k5 : ((r5 : Int) == 0) = true := by rw [beq_iff_eq]; omega
                 have k2n : ((r2 : Int) != 0) = true := by simp; omega
                 have k2 : ((r2 : Int) == 0) = false := by rw [beq_eq_false_iff_ne]; omega
                 have hx2 := hx.out
                 rw [refL_five he (by omega) (by omega)] at hx2
                 obtain ⟨e', he'⟩ : ∃ x, e / 5 = x := ⟨_, rfl⟩
                 have ie : (e : Int) / 5 = (e' : Int) := by omega
                 rw [he'] at hx2
                 have w1 : 1 ≤ e' := by omega
                 have w2 : e' < e := by omega
                 by_cases hbig : 1000000000000000000 ≤ v
                 · have gv : decide ((1000000000000000000 : Int) ≤ (v : Int)) = true := by simp; omega
                   rw [if_pos hbig] at hx2
                   have HG := Lib.hid (show PF = none by rw [HF.out, ← hx2]; rfl)
                   clear hx2 hx hr2 hr5 hr10 he' hA hB hC
                   go_wp2_with fail
                   exact bodyPost_ret (v := .tuple #[.string ⟨#[]⟩, .int .i64 1]) (by simp [results, Tryz.results47, go_sem]) rfl ⟨(by rw [HG.out]; rfl), hb⟩
                 · have gv : decide ((1000000000000000000 : Int) ≤ (v : Int)) = false := by simp; omega
                   rw [if_neg hbig] at hx2
                   obtain ⟨v', hv'⟩ : ∃ x, v * 2 = x := ⟨_, rfl⟩
                   have iv : (v : Int) * 2 = (v' : Int) := by omega
                   rw [hv'] at hx2
                   have HX2 := Lib.hid hx2
                   have w3 : v' ≤ 9223372036854775807 := by omega
                   clear hx2 hx hr2 hr5 hr10 he' hA hB hC hv'
                   go_wp2_with fail
                   go_roundg e'
                   case measure => omega
                   case rel => exact ⟨v', e', p + 1, by go_num, rfl, by go_num, rfl, HX2, w1, by omega, by omega, w3, Nat.le_refl _⟩
               · have k5n : ((r5 : Int) != 0) = true := by simp; omega
                 have k5 : ((r5 : Int) == 0) = false := by rw [beq_eq_false_iff_ne]; omega
                 have k2n : ((r2 : Int) != 0) = false := by simp; omega
                 have k2 : ((r2 : Int) == 0) = true := by rw [beq_iff_eq]; omega
                 have hx2 := hx.out
                 rw [refL_two he (by omega) (by omega)] at hx2
                 obtain ⟨e', he'⟩ : ∃ x, e / 2 = x := ⟨_, rfl⟩
                 have ie : (e : Int) / 2 = (e' : Int) := by omega
                 rw [he'] at hx2
                 have w1 : 1 ≤ e' := by omega
                 have w2 : e' < e := by omega
                 by_cases hbig : 1000000000000000000 ≤ v
                 · have gv : decide ((1000000000000000000 : Int) ≤ (v : Int)) = true := by simp; omega
                   rw [if_pos hbig] at hx2
                   have HG := Lib.hid (show PF = none by rw [HF.out, ← hx2]; rfl)
                   clear hx2 hx hr2 hr5 hr10 he' hA hB hC
                   go_wp2_with fail
                   exact bodyPost_ret (v := .tuple #[.string ⟨#[]⟩, .int .i64 1]) (by simp [results, Tryz.results47, go_sem]) rfl ⟨(by rw [HG.out]; rfl), hb⟩
                 · have gv : decide ((1000000000000000000 : Int) ≤ (v : Int)) = false := by simp; omega
                   rw [if_neg hbig] at hx2
                   obtain ⟨v', hv'⟩ : ∃ x, v * 5 = x := ⟨_, rfl⟩
                   have iv : (v : Int) * 5 = (v' : Int) := by omega
                   rw [hv'] at hx2
                   have HX2 := Lib.hid hx2
                   have w3 : v' ≤ 9223372036854775807 := by omega
                   clear hx2 hx hr2 hr5 hr10 he' hA hB hC hv'
                   go_wp2_with fail
                   go_roundg e'
                   case measure => omega
                   case rel => exact ⟨v', e', p + 1, by go_num, rfl, by go_num, rfl, HX2, w1, by omega, by omega, w3, Nat.le_refl _⟩
         · obtain rfl : e = 1 := by omega
           have hX1 : X = some (v, p) := by rw [← hx.out, refL_one]
           have hpf := HF.out
           rw [hX1] at hpf
           obtain ⟨_, hp62⟩ := HBD.out v p (by rw [HX.out, hX1])
           clear hx hX1 HF HX HMM HZ HBD
           have hnum := fun wx hb => fmtO_any v wx (by omega) (HPOW.out.below (w' := wx) hb)
           have hlen : (decDigits v).length ≤ 20 := by rw [decDigits_length]; exact nDigits_le20 v (by omega)
           have hlen1 : 1 ≤ (decDigits v).length := by rw [decDigits_length]; exact nDigits_pos v
           simp only [outN] at hpf
           unfold plainT at hpf
           have hpl := padF_len (decDigits v) p
           obtain ⟨D, hD⟩ : ∃ x, decDigits v = x := ⟨_, rfl⟩
           rw [hD] at hpf hnum hlen hlen1 hpl
           have HNUM := Lib.hid hnum
           clear hnum hD
           obtain ⟨L, hL⟩ : ∃ L, D.length = L := ⟨_, rfl⟩
           rw [hL] at hlen hlen1
           obtain ⟨T, hT⟩ : ∃ x, padF D p = x := ⟨_, rfl⟩
           rw [hT] at hpf hpl
           have HT := Lib.hid hT
           have HPF := Lib.hid hpf
           clear hpf hT
           go_wp2_with fail
           ((with_reducible refine (HNUM.out _ hb).mono ?_); rintro e w' ⟨rfl, hbw⟩)
           obtain ⟨m3, rfl⟩ := grow_mk hbw
           clear hbw
           replace hb := below_grow hb m3
           replace hr := hr.grow m3
           generalize grow _ m3 = wz at *
           go_wp2_with fail
           go_loopg [11] L (fun q s11 wr => ∃ (c : Nat), s11 = .int .i64 c ∧ wr = wz ∧ 1 ≤ c ∧ c ≤ L ∧ Hid (trimR (D.take c) = trimR D) ∧ c ≤ q)
           case atStart => exact ⟨L, rfl, rfl, hlen1, Nat.le_refl _, Lib.hid (by rw [← hL, List.take_length]), Nat.le_refl _⟩
           case round =>
            obtain ⟨c, rfl, rfl, c1, c2, hc, hcq⟩ := hrel
            obtain ⟨k, rfl⟩ : ∃ k, c = k + 1 := ⟨c - 1, by omega⟩
            have iz : ((k + 1 : Nat) : Int) = (k : Int) + 1 := by omega
            have hkD : k < D.length := by omega
            obtain ⟨x, hx⟩ : ∃ x, D[k]'hkD = x := ⟨_, rfl⟩
            by_cases hstep : 0 < k ∧ x = 48
            · have gc : decide ((1 : Int) < (k : Int) + 1) = true := by simp; omega
              have gx : ((x.toNat : Int) == 48) = true := by rw [hstep.2]; rfl
              have hT2 := hc.out
              rw [trim_back hkD (hx.trans hstep.2)] at hT2
              have HC2 := Lib.hid hT2
              clear hT2 hc
              go_wp2_with fail
              go_roundg k
              case measure => omega
              case rel => exact ⟨k, rfl, rfl, hstep.1, by omega, HC2, Nat.le_refl _⟩
            · have hE : (18 < k + 1) ↔ 18 < (trimR D).length := by
               by_cases h1 : x = 48
               · have hk0 : k = 0 := by
                  rcases Nat.eq_zero_or_pos k with h | h
                  · exact h
                  · exact absurd ⟨h, h1⟩ hstep
                 have h2 := trim_len (D.take (k + 1))
                 rw [hc.out, List.length_take] at h2
                 omega
               · have h2 := trim_end hkD (by rw [hx]; exact h1)
                 rw [hc.out] at h2
                 rw [h2]
              have ways : decide ((1 : Int) < (k : Int) + 1) = false ∨ decide ((1 : Int) < (k : Int) + 1) = true ∧ ((x.toNat : Int) == 48) = false := by
               by_cases h : k = 0
               · exact Or.inl (by simp; omega)
               · refine Or.inr ⟨by simp; omega, ?_⟩
                 rw [beq_eq_false_iff_ne]
                 intro e
                 refine hstep ⟨by omega, ?_⟩
                 rw [← UInt8.toNat_inj]
                 show x.toNat = 48
                 omega
              clear hstep hc
              by_cases h18 : 18 < (trimR D).length
              · have g18 : decide ((18 : Int) < (k : Int) + 1) = true := by have := hE.2 h18; simp; omega
                have HG := Lib.hid (show PF = none by rw [HPF.out, if_pos h18])
                clear HPF hE h18
                rcases ways with g1 | ⟨g1, g2⟩
                all_goals
                 go_wp2_with fail
                 exact bodyPost_ret (v := .tuple #[.string ⟨#[]⟩, .int .i64 1]) (by simp [results, Tryz.results47, go_sem]) rfl ⟨(by rw [HG.out]; rfl), hb⟩
              · have g18 : decide ((18 : Int) < (k : Int) + 1) = false := by
                 have := mt hE.1 h18
                 simp; omega
                have hpf := HPF.out
                rw [if_neg h18] at hpf
                have HG := Lib.hid hpf
                clear HPF hE h18 hpf
                rcases ways with g1 | ⟨g1, g2⟩
                all_goals
                 go_wp2_with fail
                 clear g1 g18 hx iz hkD
                 go_loopg [10] (p + 1) (fun q s10 wy => ∃ (j : Nat) (S : List UInt8), s10 = .string ⟨S.toArray⟩ ∧ wy = wr ∧ Hid (S = List.replicate j 48 ++ D) ∧ j ≤ p + 1 - L ∧ S.length ≤ 100 ∧ p + 1 - S.length ≤ q)
                 case atStart => exact ⟨0, D, rfl, rfl, Lib.hid rfl, Nat.zero_le _, by omega, by omega⟩
                 case round =>
                  obtain ⟨j, S, rfl, rfl, hS, hj, hS1, hSq⟩ := hrel
                  have hSl : S.length = j + L := by rw [hS.out]; simp [hL]
                  by_cases hlt : S.length ≤ p
                  · have gl : decide ((S.length : Int) ≤ (p : Int)) = true := by simp; omega
                    have cs := fun w => run_cat [48] S (by simp; omega) w
                    have HN := Lib.hid (show [48] ++ S = List.replicate (j + 1) 48 ++ D by rw [hS.out, List.replicate_succ]; rfl)
                    simp only [List.cons_append, List.nil_append] at cs
                    go_wp2_with fail
                    go_roundg (p + 1 - (S.length + 1))
                    case measure => omega
                    case rel => exact ⟨j + 1, 48 :: S, by simp, rfl, HN, by omega, by simp; omega, by simp⟩
                  · have gl : decide ((S.length : Int) ≤ (p : Int)) = false := by simp; omega
                    have hTS := pad_done hS.out (by rw [hL]; exact hj) (by omega)
                    rw [HT.out] at hTS
                    subst hTS
                    clear HNUM
                    obtain ⟨M, hM⟩ : ∃ M, T.length = M := ⟨_, rfl⟩
                    rw [hM] at hS1 gl hlt
                    obtain ⟨q, hq⟩ : ∃ q, M - p = q := ⟨_, rfl⟩
                    have iq : (M : Int) - (p : Int) = (q : Int) := by omega
                    have ex1 : (⟨T.toArray⟩ : ByteArray).extract 0 q = ⟨(T.take q).toArray⟩ := ext_take T q
                    have ex2 : (⟨T.toArray⟩ : ByteArray).extract q M = ⟨(T.drop q).toArray⟩ := ext_drop T q hM
                    have hlA : (T.take q).length ≤ 200 := by rw [List.length_take]; omega
                    have hlB : (T.drop q).length ≤ 200 := by rw [List.length_drop]; omega
                    have hCN : p = 0 → T.drop q = [] := fun h => by rw [List.drop_eq_nil_iff]; omega
                    have HG2 := HG.out
                    rw [hM, hq] at HG2
                    obtain ⟨A, hA⟩ : ∃ A, T.take q = A := ⟨_, rfl⟩
                    obtain ⟨C, hC⟩ : ∃ C, T.drop q = C := ⟨_, rfl⟩
                    rw [hA] at ex1 hlA HG2
                    rw [hC] at ex2 hlB hCN
                    try rw [hC] at HG2
                    have cA := fun w => run_cat A [46] (by simp; omega) w
                    have cA0 := fun w => run_cat (A ++ [46]) [48] (by simp; omega) w
                    have cAC := fun w => run_cat (A ++ [46]) C (by simp; omega) w
                    have cA0C := fun w => run_cat (A ++ [46] ++ [48]) C (by simp; omega) w
                    have cS1 := fun w => run_cat [45] (A ++ [46] ++ C) (by simp; omega) w
                    have cS2 := fun w => run_cat [45] (A ++ [46] ++ [48] ++ C) (by simp; omega) w
                    have cS3 := fun w => run_cat [45] A (by simp; omega) w
                    simp only [List.append_assoc, List.cons_append, List.nil_append] at cA cA0 cAC cA0C cS1 cS2 cS3
                    have HH := Lib.hid HG2
                    have HCN := Lib.hid hCN
                    have gq1 : (0 : Int) ≤ (q : Int) := by omega
                    have gq2 : q ≤ M := by omega
                    have hSM : j + L = M := by omega
                    clear HG2 hCN hA hC HG HT hS hSl hpl
                    have cr0 : wr.cell? ⟨w.heap.size, 0, none⟩ = some (.int .i64 a) := (hr).cell 0
                    have fcr0 := (hr).frozen 0
                    have cr1 : wr.cell? ⟨w.heap.size, 1, none⟩ = some (.int .i64 d) := (hr).cell 1
                    have fcr1 := (hr).frozen 1
                    have lcr := (hr).lt
                    by_cases hneg : a < 0
                    · have gneg : decide (a < (0 : Int)) = true := by simpa using hneg
                      by_cases hk0 : p = 0
                      · have gk0 : ((p : Int) == 0) = true := by rw [beq_iff_eq]; omega
                        have HK0 := Lib.hid hk0
                        clear hk0 hq hSM
                        go_wp2_with fail
                        try go_region
                        all_goals
                         go_wp2_with fail
                         first
                          | (refine bodyPost_ret (v := .tuple #[.string ⟨([45] ++ (A ++ [46] ++ [48] ++ C)).toArray⟩, .int .i64 0]) ?_ rfl ⟨?_, Below.drew hb⟩; (focus (simp [results, Tryz.results47, go_sem]; done)); (focus (rw [HH.out]; first | done | (simp only [gneg]; first | done | (simp [outP, HK0.out, HCN.out HK0.out]; done)))))
                          | (refine bodyPost_ret (v := .tuple #[.string ⟨([45] ++ (A ++ [46] ++ [48] ++ C)).toArray⟩, .int .i64 0]) ?_ rfl ⟨?_, hb⟩; (focus (simp [results, Tryz.results47, go_sem]; done)); (focus (rw [HH.out]; first | done | (simp only [gneg]; first | done | (simp [outP, HK0.out, HCN.out HK0.out]; done)))))
                          | (refine bodyPost_ret (v := .tuple #[.string ⟨([45] ++ A).toArray⟩, .int .i64 0]) ?_ rfl ⟨?_, Below.drew hb⟩; (focus (simp [results, Tryz.results47, go_sem]; done)); (focus (rw [HH.out]; first | done | (simp only [gneg]; first | done | (simp [outP, HK0.out, HCN.out HK0.out]; done)))))
                          | (refine bodyPost_ret (v := .tuple #[.string ⟨([45] ++ A).toArray⟩, .int .i64 0]) ?_ rfl ⟨?_, hb⟩; (focus (simp [results, Tryz.results47, go_sem]; done)); (focus (rw [HH.out]; first | done | (simp only [gneg]; first | done | (simp [outP, HK0.out, HCN.out HK0.out]; done)))))
                      · have gk0 : ((p : Int) == 0) = false := by rw [beq_eq_false_iff_ne]; omega
                        have HK0 := Lib.hid hk0
                        clear hk0 hq hSM
                        go_wp2_with fail
                        try go_region
                        all_goals
                         go_wp2_with fail
                         first
                          | (refine bodyPost_ret (v := .tuple #[.string ⟨([45] ++ (A ++ [46] ++ C)).toArray⟩, .int .i64 0]) ?_ rfl ⟨?_, Below.drew hb⟩; (focus (simp [results, Tryz.results47, go_sem]; done)); (focus (rw [HH.out]; first | done | (simp only [gneg]; first | done | (simp [outP, HK0.out]; done)))))
                          | (refine bodyPost_ret (v := .tuple #[.string ⟨([45] ++ (A ++ [46] ++ C)).toArray⟩, .int .i64 0]) ?_ rfl ⟨?_, hb⟩; (focus (simp [results, Tryz.results47, go_sem]; done)); (focus (rw [HH.out]; first | done | (simp only [gneg]; first | done | (simp [outP, HK0.out]; done)))))
                          | (refine bodyPost_ret (v := .tuple #[.string ⟨([45] ++ A).toArray⟩, .int .i64 0]) ?_ rfl ⟨?_, Below.drew hb⟩; (focus (simp [results, Tryz.results47, go_sem]; done)); (focus (rw [HH.out]; first | done | (simp only [gneg]; first | done | (simp [outP, HK0.out]; done)))))
                          | (refine bodyPost_ret (v := .tuple #[.string ⟨([45] ++ A).toArray⟩, .int .i64 0]) ?_ rfl ⟨?_, hb⟩; (focus (simp [results, Tryz.results47, go_sem]; done)); (focus (rw [HH.out]; first | done | (simp only [gneg]; first | done | (simp [outP, HK0.out]; done)))))
                    · have gneg : decide (a < (0 : Int)) = false := by simpa using hneg
                      by_cases hk0 : p = 0
                      · have gk0 : ((p : Int) == 0) = true := by rw [beq_iff_eq]; omega
                        have HK0 := Lib.hid hk0
                        clear hk0 hq hSM
                        go_wp2_with fail
                        try go_region
                        all_goals
                         go_wp2_with fail
                         first
                          | (refine bodyPost_ret (v := .tuple #[.string ⟨(A ++ [46] ++ [48] ++ C).toArray⟩, .int .i64 0]) ?_ rfl ⟨?_, Below.drew hb⟩; (focus (simp [results, Tryz.results47, go_sem]; done)); (focus (rw [HH.out]; first | done | (simp only [gneg]; first | done | (simp [outP, HK0.out, HCN.out HK0.out]; done)))))
                          | (refine bodyPost_ret (v := .tuple #[.string ⟨(A ++ [46] ++ [48] ++ C).toArray⟩, .int .i64 0]) ?_ rfl ⟨?_, hb⟩; (focus (simp [results, Tryz.results47, go_sem]; done)); (focus (rw [HH.out]; first | done | (simp only [gneg]; first | done | (simp [outP, HK0.out, HCN.out HK0.out]; done)))))
                          | (refine bodyPost_ret (v := .tuple #[.string ⟨(A).toArray⟩, .int .i64 0]) ?_ rfl ⟨?_, Below.drew hb⟩; (focus (simp [results, Tryz.results47, go_sem]; done)); (focus (rw [HH.out]; first | done | (simp only [gneg]; first | done | (simp [outP, HK0.out, HCN.out HK0.out]; done)))))
                          | (refine bodyPost_ret (v := .tuple #[.string ⟨(A).toArray⟩, .int .i64 0]) ?_ rfl ⟨?_, hb⟩; (focus (simp [results, Tryz.results47, go_sem]; done)); (focus (rw [HH.out]; first | done | (simp only [gneg]; first | done | (simp [outP, HK0.out, HCN.out HK0.out]; done)))))
                      · have gk0 : ((p : Int) == 0) = false := by rw [beq_eq_false_iff_ne]; omega
                        have HK0 := Lib.hid hk0
                        clear hk0 hq hSM
                        go_wp2_with fail
                        try go_region
                        all_goals
                         go_wp2_with fail
                         first
                          | (refine bodyPost_ret (v := .tuple #[.string ⟨(A ++ [46] ++ C).toArray⟩, .int .i64 0]) ?_ rfl ⟨?_, Below.drew hb⟩; (focus (simp [results, Tryz.results47, go_sem]; done)); (focus (rw [HH.out]; first | done | (simp only [gneg]; first | done | (simp [outP, HK0.out]; done)))))
                          | (refine bodyPost_ret (v := .tuple #[.string ⟨(A ++ [46] ++ C).toArray⟩, .int .i64 0]) ?_ rfl ⟨?_, hb⟩; (focus (simp [results, Tryz.results47, go_sem]; done)); (focus (rw [HH.out]; first | done | (simp only [gneg]; first | done | (simp [outP, HK0.out]; done)))))
                          | (refine bodyPost_ret (v := .tuple #[.string ⟨(A).toArray⟩, .int .i64 0]) ?_ rfl ⟨?_, Below.drew hb⟩; (focus (simp [results, Tryz.results47, go_sem]; done)); (focus (rw [HH.out]; first | done | (simp only [gneg]; first | done | (simp [outP, HK0.out]; done)))))
                          | (refine bodyPost_ret (v := .tuple #[.string ⟨(A).toArray⟩, .int .i64 0]) ?_ rfl ⟨?_, hb⟩; (focus (simp [results, Tryz.results47, go_sem]; done)); (focus (rw [HH.out]; first | done | (simp only [gneg]; first | done | (simp [outP, HK0.out]; done)))))
end Go.Proofs.YtplnhjmomomphaaGreatDoor
