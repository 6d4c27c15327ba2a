/- Fractions out of texts: the reference's way, walked. -/
import Derived.Test.YtgjhaanpkfheeaaDoorTextR
import Derived.Test.YtgjhaanpkfheeaaDoorTextQ
import Derived.Deep.CutBlock
import Derived.Deep.DeepCutAuto
namespace Go.Proofs.YtgjhaanpkfheeaaDoor
set_option linter.unusedVariables false
set_option linter.unusedSimpArgs false
open Go.RowKit Go.Lib

theorem top_at {t : List UInt8} {i : Nat} (h : i < t.length) (hc : t[i] = 47) (hp : (t.take i).all (· != 47) = true) : topF t = t.take i ∧ lowF t = t.drop (i + 1) ∧ t.contains 47 = true := by
  have e : t = t.take i ++ (47 :: t.drop (i + 1)) := by
    rw [← hc, ← List.drop_eq_getElem_cons h, List.take_append_drop]
  have hk := take_all (p := fun c : UInt8 => c != 47) hp (m := 47 :: t.drop (i + 1)) (fun a ha => by simp at ha; rw [← ha]; decide)
  rw [← e] at hk
  have hcon : t.contains 47 = true := by
    rw [List.contains_iff_mem, ← hc]
    exact List.getElem_mem h
  refine ⟨hk.1, ?_, hcon⟩
  unfold lowF
  rw [if_pos hcon]
  have := congrArg List.tail hk.2
  exact this
theorem top_end {t : List UInt8} (hp : t.all (· != 47) = true) : topF t = t ∧ lowF t = [49] ∧ t.contains 47 = false := by
  have hk := take_all (p := fun c : UInt8 => c != 47) hp (m := []) (fun a ha => by simp at ha)
  rw [List.append_nil] at hk
  have hcon : t.contains 47 = false := by
    rw [← Bool.not_eq_true, List.contains_iff_mem]
    intro hm
    have := List.all_eq_true.1 hp _ hm
    revert this
    decide
  refine ⟨hk.1, ?_, hcon⟩
  unfold lowF
  rw [hcon]
  rfl

theorem ext_take (l : List UInt8) (i : Nat) : (⟨l.toArray⟩ : ByteArray).extract 0 i = ⟨(l.take i).toArray⟩ := by rw [ByteArray.extract_mk]; simp
theorem ext_drop (l : List UInt8) (i : Nat) {n : Nat} (h : l.length = n) : (⟨l.toArray⟩ : ByteArray).extract i n = ⟨(l.drop i).toArray⟩ := by
  subst h
  rw [ByteArray.extract_mk]
  simp
  try exact List.take_of_length_le (by simp)

theorem parseR_at {l : List UInt8} {neg p : Bool} {t top low : List UInt8} {N D : Nat × Bool} (hs : l ≠ overT) (hneg : (l.head? == some 45) = neg) (ht : behindF neg l = t) (htop : topF t = top) (hlow : lowF t = low) (hp : t.contains 47 = p) (hN : countF top = N) (hD : countF low = D) :
    parseR l = if !N.2 || !D.2 || (p && decide (D.1 < 2)) || (neg && N.1 == 0) then ((0, 0), false) else if mayB (signF neg N.1, (D.1 : Int)) then ((signF neg N.1, (D.1 : Int)), true) else ((0, 0), false) := by
  subst hneg ht htop hlow hp hN hD
  unfold parseR
  rw [if_neg hs]

theorem count_le (l : List UInt8) : (countF l).2 = true → (countF l).1 ≤ 9223372036854775807 := fun h => by
  obtain ⟨_, h1, h2⟩ := count_ok h
  omega

set_option maxRecDepth 20000 in
set_option maxHeartbeats 8000000 in
theorem rparse_any (l : List UInt8) (w : World) (hl : l.length ≤ 9223372036854775807) :
    Calls Tryd.prog 17 #[.string ⟨l.toArray⟩] w fun e w' => e = .returned (.tuple #[rv (parseR l).1, .int .i64 (errF (parseR l).2)]) ∧ Below w.heap.size w w' := by
  obtain ⟨PR, hPR⟩ : ∃ PR, parseR l = PR := ⟨_, rfl⟩
  rw [hPR]
  have HO := Lib.hid (fun w => over_any w)
  by_cases hs : l = overT
  · have HF := Lib.hid (show PR = ((0, 0), true) by rw [← hPR]; unfold parseR; rw [if_pos hs])
    have g0 : (l == [111, 118, 101, 114]) = true := by rw [hs]; rfl
    clear hPR
    go_enter Tryd.func17, Tryd.ntmps17
    go_wp2_with fail
    ((with_reducible refine (HO.out _).mono ?_); rintro e w' ⟨rfl, hbw⟩)
    obtain ⟨m1, rfl⟩ := grow_mk hbw
    clear hbw
    go_wp2_with fail
    exact bodyPost_ret (v := .tuple #[.agg #[.int .i64 0, .int .i64 0], .int .i64 0]) (by simp [results, Tryd.results17, go_sem]) rfl ⟨(by rw [HF.out]; rfl), (by repeat (first | with_reducible exact below_box _ _ | (with_reducible refine Below.setCell ?_ ?hq _; case hq => first | (simp; done) | (simp; omega)) | with_reducible refine below_alloc_self ?_ _ | with_reducible refine below_grow ?_ _))⟩
  · have g0 : (l == [111, 118, 101, 114]) = false := by rw [beq_eq_false_iff_ne]; exact hs
    have ways : l = [] ∨ (∃ a b, l = a :: b ∧ ((a.toNat : Int) == 45) = false ∧ (l.head? == some 45) = false) ∨ (∃ b, l = 45 :: b) := by
      cases l with
      | nil => exact Or.inl rfl
      | cons a b =>
        by_cases h : a = 45
        · exact Or.inr (Or.inr ⟨b, by rw [h]⟩)
        · refine Or.inr (Or.inl ⟨a, b, rfl, ?_, ?_⟩)
          · rw [beq_eq_false_iff_ne]
            intro e
            exact h (by rw [← UInt8.toNat_inj]; show a.toNat = 45; omega)
          · simpa using h
    obtain ⟨neg, hneg⟩ : ∃ neg, (l.head? == some 45) = neg := ⟨_, rfl⟩
    obtain ⟨t, ht⟩ : ∃ t, behindF neg l = t := ⟨_, rfl⟩
    have htl : t.length ≤ 9223372036854775807 := by
      rw [← ht]
      unfold behindF
      split
      · rw [List.length_tail]; omega
      · exact hl
    obtain ⟨top, htop⟩ : ∃ x, topF t = x := ⟨_, rfl⟩
    obtain ⟨low, hlow⟩ : ∃ x, lowF t = x := ⟨_, rfl⟩
    obtain ⟨p, hp⟩ : ∃ x, t.contains 47 = x := ⟨_, rfl⟩
    have htopl : top.length ≤ 9223372036854775807 := by
      rw [← htop]
      have := (List.takeWhile_prefix (fun c : UInt8 => c != 47) (l := t)).length_le
      unfold topF
      omega
    have hlowl : low.length ≤ 9223372036854775807 := by
      rw [← hlow]
      unfold lowF
      split
      · rw [List.length_tail]
        have := (List.dropWhile_suffix (fun c : UInt8 => c != 47) (l := t)).length_le
        omega
      · decide
    obtain ⟨⟨N, ok⟩, hN⟩ : ∃ x, countF top = x := ⟨_, rfl⟩
    obtain ⟨⟨D, too⟩, hD⟩ : ∃ x, countF low = x := ⟨_, rfl⟩
    have hlaw := parseR_at hs hneg ht htop hlow hp hN hD
    rw [hPR] at hlaw
    simp only at hlaw
    have hc1 := fun w => count_any top w htopl
    have hc2 := fun w => count_any low w hlowl
    have hNle := count_le top
    have hDle := count_le low
    rw [hN] at hc1 hNle
    rw [hD] at hc2 hDle
    simp only at hc1 hc2 hNle hDle
    have HC1 := Lib.hid hc1
    have HC2 := Lib.hid hc2
    have HL := Lib.hid hlaw
    have HT1 := Lib.hid htop
    have HT2 := Lib.hid hlow
    have HT3 := Lib.hid hp
    have HT := Lib.hid ht
    clear hc1 hc2 hlaw htop hlow hp ht hPR hN hD htopl hlowl
    rcases ways with rfl | ⟨a, b, rfl, g1, hg⟩ | ⟨b, rfl⟩
    · obtain rfl : neg = false := hneg.symm
      have ht := HT.out
      simp only [behindF, Bool.false_eq_true, if_false] at ht
      subst ht
      clear HT hneg hs hl htl
      go_enter Tryd.func17, Tryd.ntmps17
      go_upto_block 0 with fail
      have hb : Below w.heap.size w (w.alloc (.cells #[.int .i64 0, .int .i64 0] 23)) := below_box _ _
      have hr : Blk (w.alloc (.cells #[.int .i64 0, .int .i64 0] 23)) w.heap.size 23 #[.int .i64 0, .int .i64 0] := Blk.new _ _ _
      generalize w.alloc _ = wv at *
      go_cut [6, 7, 8] (fun s6 s7 s8 wx => s6 = .string ⟨top.toArray⟩ ∧ s7 = .string ⟨low.toArray⟩ ∧ s8 = .bool p ∧ Below w.heap.size w wx ∧ Blk wx w.heap.size 23 #[.int .i64 0, .int .i64 0])
      case first =>
        go_wp2_with fail
        go_loopg [31, 6, 7, 8] ([] : List UInt8).length (fun k s s6 s7 s8 wr => ∃ (i : Nat), s = .int .i64 i ∧ s6 = .string ⟨([] : List UInt8).toArray⟩ ∧ s7 = .string ⟨#[49]⟩ ∧ s8 = .bool false ∧ wr = wv ∧ Hid ((([] : List UInt8).take i).all (· != 47) = true) ∧ i ≤ ([] : List UInt8).length ∧ ([] : List UInt8).length - i ≤ k)
        case atStart => exact ⟨0, rfl, rfl, rfl, rfl, rfl, Lib.hid rfl, Nat.zero_le _, by omega⟩
        case round =>
          obtain ⟨i, rfl, rfl, rfl, rfl, rfl, hpre, hle, hk⟩ := hrel
          by_cases hi : i < ([] : List UInt8).length
          · have gi : decide ((i : Int) < 0) = true := by (try simp only [List.length_cons, List.length_nil] at hi); simp; omega
            have hi2 : i < 0 := hi
            have hst : (([] : List UInt8).take (i + 1)).all (· != 47) = (([] : List UInt8)[i]'hi != 47) := by
              rw [List.take_add_one, List.getElem?_eq_getElem hi, List.all_append, hpre.out]
              simp
            have hta := fun hc => top_at hi hc hpre.out
            rw [HT1.out, HT2.out, HT3.out] at hta
            by_cases h47 : ([] : List UInt8)[i]'hi = 47
            · obtain ⟨e1, e2, e3⟩ := hta h47
              have hex1 : (⟨([] : List UInt8).toArray⟩ : ByteArray).extract 0 i = ⟨top.toArray⟩ := by rw [ext_take, e1]
              have hex2 : (⟨([] : List UInt8).toArray⟩ : ByteArray).extract (i + 1) (0) = ⟨low.toArray⟩ := (ext_drop _ _ rfl).trans (by rw [e2])
              clear hst hta e1 e2
              subst e3
              have gle : decide ((i : Int) + 1 ≤ 0) = true := by (try simp only [List.length_cons, List.length_nil] at hi); simp; omega
              go_wp2_with fail
              refine wp_region_grow (by kernel_rfl) (by kernel_rfl) ?_
              repeat (go_big_quiet_step (fail))
              refine wpQuiet_nil ?_
              rintro _ ⟨m3, rfl⟩
              go_wp2_with fail
              go_meet
              case rel => exact ⟨rfl, rfl, rfl, below_grow hb m3, hr.grow m3⟩
            · have HP := Lib.hid (show (([] : List UInt8).take (i + 1)).all (· != 47) = true by rw [hst]; simpa using h47)
              have g47 : ((((([] : List UInt8)[i]'hi).toNat : Nat) : Int) == 47) = false := by
                rw [beq_eq_false_iff_ne]
                intro e
                exact h47 (by rw [← UInt8.toNat_inj]; show (([] : List UInt8)[i]'hi).toNat = 47; omega)
              clear hst hta h47
              generalize hc : ([] : List UInt8)[i]'hi = c at *
              go_wp2_with fail
              go_roundg (([] : List UInt8).length - (i + 1))
              case measure => omega
              case rel => exact ⟨i + 1, by go_num, rfl, rfl, rfl, rfl, HP, hi, by omega⟩
          · obtain rfl : i = ([] : List UInt8).length := by omega
            have hp2 := hpre.out
            rw [List.take_length] at hp2
            obtain ⟨e1, e2, e3⟩ := top_end hp2
            rw [HT1.out] at e1
            rw [HT2.out] at e2
            rw [HT3.out] at e3
            subst e1 e2 e3
            clear hpre hp2
            go_wp2_with fail
            go_meet
            case rel => exact ⟨rfl, rfl, rfl, hb, hr⟩
      case rest =>
        clear HT1 HT2 HT3
        obtain ⟨rfl, rfl, rfl, hb, hr⟩ := hcut
        go_wp2_with fail
        ((with_reducible refine (HC1.out _).mono ?_); rintro e w' ⟨⟨k1, rfl, hk1⟩, hbw⟩)
        obtain ⟨m1, rfl⟩ := grow_mk hbw
        clear hbw
        replace hb := below_grow hb m1
        replace hr := hr.grow m1
        generalize grow _ m1 = wa at *
        go_wp2_with fail
        ((with_reducible refine (HC2.out _).mono ?_); rintro e w' ⟨⟨k2, rfl, hk2⟩, hbw⟩)
        obtain ⟨m2, rfl⟩ := grow_mk hbw
        clear hbw
        replace hb := below_grow hb m2
        replace hr := hr.grow m2
        generalize grow _ m2 = wb at *
        have cr0 : wb.cell? ⟨w.heap.size, 0, none⟩ = some (.int .i64 0) := (hr).cell 0
        have fcr0 := (hr).frozen 0
        have cr1 : wb.cell? ⟨w.heap.size, 1, none⟩ = some (.int .i64 0) := (hr).cell 1
        have fcr1 := (hr).frozen 1
        have lcr := (hr).lt
        cases ok with
        | false =>
          have HF := Lib.hid (show PR = ((0, 0), false) by rw [HL.out]; simp)
          go_wp2_with fail
          ((with_reducible refine (HO.out _).mono ?_); rintro e w' ⟨rfl, hbw⟩)
          obtain ⟨m5, rfl⟩ := grow_mk hbw
          clear hbw
          go_wp2_with fail
          exact bodyPost_ret (v := .tuple #[.agg #[.int .i64 0, .int .i64 0], .int .i64 3]) (by simp [results, Tryd.results17, go_sem, cr0, cr1, lcr]) rfl ⟨(by rw [HF.out]; rfl), (by repeat (first | with_reducible exact hb | (with_reducible refine Below.setCell ?_ ?hq _; case hq => first | (simp; done) | (simp; omega)) | with_reducible refine below_alloc_self ?_ _ | with_reducible refine below_grow ?_ _))⟩
        | true =>
          obtain rfl := hk1 rfl
          have hN := hNle rfl
          clear hk1 hNle
          cases too with
          | false =>
            have HF := Lib.hid (show PR = ((0, 0), false) by rw [HL.out]; simp)
            go_wp2_with fail
            ((with_reducible refine (HO.out _).mono ?_); rintro e w' ⟨rfl, hbw⟩)
            obtain ⟨m5, rfl⟩ := grow_mk hbw
            clear hbw
            go_wp2_with fail
            exact bodyPost_ret (v := .tuple #[.agg #[.int .i64 0, .int .i64 0], .int .i64 3]) (by simp [results, Tryd.results17, go_sem, cr0, cr1, lcr]) rfl ⟨(by rw [HF.out]; rfl), (by repeat (first | with_reducible exact hb | (with_reducible refine Below.setCell ?_ ?hq _; case hq => first | (simp; done) | (simp; omega)) | with_reducible refine below_alloc_self ?_ _ | with_reducible refine below_grow ?_ _))⟩
          | true =>
            obtain rfl := hk2 rfl
            have hD := hDle rfl
            clear hk2 hDle
            have wp2 : (p = true ∧ decide ((D : Int) < 2) = true ∧ (p && decide (D < 2)) = true) ∨ (((p = true ∧ decide ((D : Int) < 2) = false) ∨ p = false) ∧ (p && decide (D < 2)) = false) := by
              by_cases h : D < 2
              · cases p
                · exact Or.inr ⟨Or.inr rfl, rfl⟩
                · exact Or.inl ⟨rfl, by simpa using (by omega : (D : Int) < 2), by simpa using h⟩
              · cases p
                · exact Or.inr ⟨Or.inr rfl, rfl⟩
                · exact Or.inr ⟨Or.inl ⟨rfl, by simpa using (by omega : (2 : Int) ≤ D)⟩, by simpa using (by omega : 2 ≤ D)⟩
            rcases wp2 with ⟨rfl, q1, q2⟩ | ⟨q1, q2⟩
            · have HF := Lib.hid (show PR = ((0, 0), false) by rw [HL.out, q2]; simp)
              clear HL
              go_wp2_with fail
              ((with_reducible refine (HO.out _).mono ?_); rintro e w' ⟨rfl, hbw⟩)
              obtain ⟨m5, rfl⟩ := grow_mk hbw
              clear hbw
              go_wp2_with fail
              exact bodyPost_ret (v := .tuple #[.agg #[.int .i64 0, .int .i64 0], .int .i64 3]) (by simp [results, Tryd.results17, go_sem, cr0, cr1, lcr]) rfl ⟨(by rw [HF.out]; rfl), (by repeat (first | with_reducible exact hb | (with_reducible refine Below.setCell ?_ ?hq _; case hq => first | (simp; done) | (simp; omega)) | with_reducible refine below_alloc_self ?_ _ | with_reducible refine below_grow ?_ _))⟩
            · have hl2 := HL.out
              rw [q2] at hl2
              clear HL q2
              have hl3 : PR = if mayB ((N : Int), (D : Int)) then (((N : Int), (D : Int)), true) else ((0, 0), false) := by rw [hl2]; simp [signF]
              clear hl2
              have h64 : Is64 ((N : Int), (D : Int)) := by unfold Is64; simp only; omega
              have hm := fun w => rmay_any ((N : Int), (D : Int)) w h64
              cases hmb : mayB ((N : Int), (D : Int)) with
              | false =>
                rw [hmb] at hm hl3
                have HM := Lib.hid hm
                have HF := Lib.hid (show PR = ((0, 0), false) by rw [hl3]; rfl)
                clear hm hl3 hmb h64
                rcases q1 with ⟨rfl, q1⟩ | rfl
                all_goals
                  go_wp2_with fail
                  ((with_reducible refine (HM.out _).mono ?_); rintro e w' ⟨rfl, hbw⟩)
                  obtain ⟨m3, rfl⟩ := grow_mk hbw
                  clear hbw
                  have hv := Blk.new wb 23 #[.int .i64 (N : Int), .int .i64 (D : Int)]
                  replace hr := hr.old (.cells #[.int .i64 (N : Int), .int .i64 (D : Int)] 23)
                  replace hb := below_alloc_self hb (.cells #[.int .i64 (N : Int), .int .i64 (D : Int)] 23)
                  have hne : w.heap.size ≠ wb.heap.size := Nat.ne_of_lt lcr
                  replace hv := hv.grow m3
                  replace hr := hr.grow m3
                  replace hb := below_grow hb m3
                  clear cr0 cr1 fcr0 fcr1 lcr
                  generalize wb.heap.size = g at *
                  generalize grow _ m3 = wd at *
                  have cr0 : wd.cell? ⟨w.heap.size, 0, none⟩ = some (.int .i64 0) := (hr).cell 0
                  have fcr0 := (hr).frozen 0
                  have cr1 : wd.cell? ⟨w.heap.size, 1, none⟩ = some (.int .i64 0) := (hr).cell 1
                  have fcr1 := (hr).frozen 1
                  have lcr := (hr).lt
                  have cv0 : wd.cell? ⟨g, 0, none⟩ = some (.int .i64 (N : Int)) := (hv).cell 0
                  have fcv0 := (hv).frozen 0
                  have cv1 : wd.cell? ⟨g, 1, none⟩ = some (.int .i64 (D : Int)) := (hv).cell 1
                  have fcv1 := (hv).frozen 1
                  have lcv := (hv).lt
                  go_wp2_with fail
                  ((with_reducible refine (HO.out _).mono ?_); rintro e w' ⟨rfl, hbw⟩)
                  obtain ⟨m5, rfl⟩ := grow_mk hbw
                  clear hbw
                  go_wp2_with fail
                  exact bodyPost_ret (v := .tuple #[.agg #[.int .i64 0, .int .i64 0], .int .i64 3]) (by simp [results, Tryd.results17, go_sem, cr0, cr1, lcr, cv0, cv1, lcv]) rfl ⟨(by rw [HF.out]; rfl), (by repeat (first | with_reducible exact hb | (with_reducible refine Below.setCell ?_ ?hq _; case hq => first | (simp; done) | (simp; omega)) | with_reducible refine below_alloc_self ?_ _ | with_reducible refine below_grow ?_ _))⟩
              | true =>
                rw [hmb] at hm hl3
                have HM := Lib.hid hm
                have HF := Lib.hid (show PR = (((N : Int), (D : Int)), true) by rw [hl3]; rfl)
                clear hm hl3 hmb h64
                rcases q1 with ⟨rfl, q1⟩ | rfl
                all_goals
                  go_wp2_with fail
                  ((with_reducible refine (HM.out _).mono ?_); rintro e w' ⟨rfl, hbw⟩)
                  obtain ⟨m3, rfl⟩ := grow_mk hbw
                  clear hbw
                  have hv := Blk.new wb 23 #[.int .i64 (N : Int), .int .i64 (D : Int)]
                  replace hr := hr.old (.cells #[.int .i64 (N : Int), .int .i64 (D : Int)] 23)
                  replace hb := below_alloc_self hb (.cells #[.int .i64 (N : Int), .int .i64 (D : Int)] 23)
                  have hne : w.heap.size ≠ wb.heap.size := Nat.ne_of_lt lcr
                  replace hv := hv.grow m3
                  replace hr := hr.grow m3
                  replace hb := below_grow hb m3
                  clear cr0 cr1 fcr0 fcr1 lcr
                  generalize wb.heap.size = g at *
                  generalize grow _ m3 = wd at *
                  have cr0 : wd.cell? ⟨w.heap.size, 0, none⟩ = some (.int .i64 0) := (hr).cell 0
                  have fcr0 := (hr).frozen 0
                  have cr1 : wd.cell? ⟨w.heap.size, 1, none⟩ = some (.int .i64 0) := (hr).cell 1
                  have fcr1 := (hr).frozen 1
                  have lcr := (hr).lt
                  have cv0 : wd.cell? ⟨g, 0, none⟩ = some (.int .i64 (N : Int)) := (hv).cell 0
                  have fcv0 := (hv).frozen 0
                  have cv1 : wd.cell? ⟨g, 1, none⟩ = some (.int .i64 (D : Int)) := (hv).cell 1
                  have fcv1 := (hv).frozen 1
                  have lcv := (hv).lt
                  go_wp2_with fail
                  exact bodyPost_ret (v := .tuple #[.agg #[.int .i64 (N : Int), .int .i64 (D : Int)], .int .i64 0]) (by simp [results, Tryd.results17, go_sem, cr0, cr1, lcr, cv0, cv1, lcv]) rfl ⟨(by rw [HF.out]; rfl), (by repeat (first | with_reducible exact hb | (with_reducible refine Below.setCell ?_ ?hq _; case hq => first | (simp; done) | (simp; omega)) | with_reducible refine below_alloc_self ?_ _ | with_reducible refine below_grow ?_ _))⟩
    · obtain rfl : neg = false := by rw [← hneg, hg]
      have ht := HT.out
      simp only [behindF, Bool.false_eq_true, if_false] at ht
      subst ht
      clear HT hneg hs hg
      go_enter Tryd.func17, Tryd.ntmps17
      go_upto_block 0 with fail
      have hb : Below w.heap.size w (w.alloc (.cells #[.int .i64 0, .int .i64 0] 23)) := below_box _ _
      have hr : Blk (w.alloc (.cells #[.int .i64 0, .int .i64 0] 23)) w.heap.size 23 #[.int .i64 0, .int .i64 0] := Blk.new _ _ _
      generalize w.alloc _ = wv at *
      go_cut [6, 7, 8] (fun s6 s7 s8 wx => s6 = .string ⟨top.toArray⟩ ∧ s7 = .string ⟨low.toArray⟩ ∧ s8 = .bool p ∧ Below w.heap.size w wx ∧ Blk wx w.heap.size 23 #[.int .i64 0, .int .i64 0])
      case first =>
        go_wp2_with fail
        go_loopg [31, 6, 7, 8] (a :: b).length (fun k s s6 s7 s8 wr => ∃ (i : Nat), s = .int .i64 i ∧ s6 = .string ⟨(a :: b).toArray⟩ ∧ s7 = .string ⟨#[49]⟩ ∧ s8 = .bool false ∧ wr = wv ∧ Hid (((a :: b).take i).all (· != 47) = true) ∧ i ≤ (a :: b).length ∧ (a :: b).length - i ≤ k)
        case atStart => exact ⟨0, rfl, rfl, rfl, rfl, rfl, Lib.hid rfl, Nat.zero_le _, by omega⟩
        case round =>
          obtain ⟨i, rfl, rfl, rfl, rfl, rfl, hpre, hle, hk⟩ := hrel
          by_cases hi : i < (a :: b).length
          · have gi : decide ((i : Int) < (b.length : Int) + 1) = true := by (try simp only [List.length_cons, List.length_nil] at hi); simp; omega
            have hi2 : i < b.length + 1 := hi
            have hst : ((a :: b).take (i + 1)).all (· != 47) = ((a :: b)[i]'hi != 47) := by
              rw [List.take_add_one, List.getElem?_eq_getElem hi, List.all_append, hpre.out]
              simp
            have hta := fun hc => top_at hi hc hpre.out
            rw [HT1.out, HT2.out, HT3.out] at hta
            by_cases h47 : (a :: b)[i]'hi = 47
            · obtain ⟨e1, e2, e3⟩ := hta h47
              have hex1 : (⟨(a :: b).toArray⟩ : ByteArray).extract 0 i = ⟨top.toArray⟩ := by rw [ext_take, e1]
              have hex2 : (⟨(a :: b).toArray⟩ : ByteArray).extract (i + 1) (b.length + 1) = ⟨low.toArray⟩ := (ext_drop _ _ rfl).trans (by rw [e2])
              clear hst hta e1 e2
              subst e3
              have gle : decide ((i : Int) + 1 ≤ (b.length : Int) + 1) = true := by (try simp only [List.length_cons, List.length_nil] at hi); simp; omega
              go_wp2_with fail
              refine wp_region_grow (by kernel_rfl) (by kernel_rfl) ?_
              repeat (go_big_quiet_step (fail))
              refine wpQuiet_nil ?_
              rintro _ ⟨m3, rfl⟩
              go_wp2_with fail
              go_meet
              case rel => exact ⟨rfl, rfl, rfl, below_grow hb m3, hr.grow m3⟩
            · have HP := Lib.hid (show ((a :: b).take (i + 1)).all (· != 47) = true by rw [hst]; simpa using h47)
              have g47 : (((((a :: b)[i]'hi).toNat : Nat) : Int) == 47) = false := by
                rw [beq_eq_false_iff_ne]
                intro e
                exact h47 (by rw [← UInt8.toNat_inj]; show ((a :: b)[i]'hi).toNat = 47; omega)
              clear hst hta h47
              generalize hc : (a :: b)[i]'hi = c at *
              go_wp2_with fail
              go_roundg ((a :: b).length - (i + 1))
              case measure => omega
              case rel => exact ⟨i + 1, by go_num, rfl, rfl, rfl, rfl, HP, hi, by omega⟩
          · obtain rfl : i = (a :: b).length := by omega
            have hp2 := hpre.out
            rw [List.take_length] at hp2
            obtain ⟨e1, e2, e3⟩ := top_end hp2
            rw [HT1.out] at e1
            rw [HT2.out] at e2
            rw [HT3.out] at e3
            subst e1 e2 e3
            clear hpre hp2
            go_wp2_with fail
            go_meet
            case rel => exact ⟨rfl, rfl, rfl, hb, hr⟩
      case rest =>
        clear HT1 HT2 HT3
        obtain ⟨rfl, rfl, rfl, hb, hr⟩ := hcut
        go_wp2_with fail
        ((with_reducible refine (HC1.out _).mono ?_); rintro e w' ⟨⟨k1, rfl, hk1⟩, hbw⟩)
        obtain ⟨m1, rfl⟩ := grow_mk hbw
        clear hbw
        replace hb := below_grow hb m1
        replace hr := hr.grow m1
        generalize grow _ m1 = wa at *
        go_wp2_with fail
        ((with_reducible refine (HC2.out _).mono ?_); rintro e w' ⟨⟨k2, rfl, hk2⟩, hbw⟩)
        obtain ⟨m2, rfl⟩ := grow_mk hbw
        clear hbw
        replace hb := below_grow hb m2
        replace hr := hr.grow m2
        generalize grow _ m2 = wb at *
        have cr0 : wb.cell? ⟨w.heap.size, 0, none⟩ = some (.int .i64 0) := (hr).cell 0
        have fcr0 := (hr).frozen 0
        have cr1 : wb.cell? ⟨w.heap.size, 1, none⟩ = some (.int .i64 0) := (hr).cell 1
        have fcr1 := (hr).frozen 1
        have lcr := (hr).lt
        cases ok with
        | false =>
          have HF := Lib.hid (show PR = ((0, 0), false) by rw [HL.out]; simp)
          go_wp2_with fail
          ((with_reducible refine (HO.out _).mono ?_); rintro e w' ⟨rfl, hbw⟩)
          obtain ⟨m5, rfl⟩ := grow_mk hbw
          clear hbw
          go_wp2_with fail
          exact bodyPost_ret (v := .tuple #[.agg #[.int .i64 0, .int .i64 0], .int .i64 3]) (by simp [results, Tryd.results17, go_sem, cr0, cr1, lcr]) rfl ⟨(by rw [HF.out]; rfl), (by repeat (first | with_reducible exact hb | (with_reducible refine Below.setCell ?_ ?hq _; case hq => first | (simp; done) | (simp; omega)) | with_reducible refine below_alloc_self ?_ _ | with_reducible refine below_grow ?_ _))⟩
        | true =>
          obtain rfl := hk1 rfl
          have hN := hNle rfl
          clear hk1 hNle
          cases too with
          | false =>
            have HF := Lib.hid (show PR = ((0, 0), false) by rw [HL.out]; simp)
            go_wp2_with fail
            ((with_reducible refine (HO.out _).mono ?_); rintro e w' ⟨rfl, hbw⟩)
            obtain ⟨m5, rfl⟩ := grow_mk hbw
            clear hbw
            go_wp2_with fail
            exact bodyPost_ret (v := .tuple #[.agg #[.int .i64 0, .int .i64 0], .int .i64 3]) (by simp [results, Tryd.results17, go_sem, cr0, cr1, lcr]) rfl ⟨(by rw [HF.out]; rfl), (by repeat (first | with_reducible exact hb | (with_reducible refine Below.setCell ?_ ?hq _; case hq => first | (simp; done) | (simp; omega)) | with_reducible refine below_alloc_self ?_ _ | with_reducible refine below_grow ?_ _))⟩
          | true =>
            obtain rfl := hk2 rfl
            have hD := hDle rfl
            clear hk2 hDle
            have wp2 : (p = true ∧ decide ((D : Int) < 2) = true ∧ (p && decide (D < 2)) = true) ∨ (((p = true ∧ decide ((D : Int) < 2) = false) ∨ p = false) ∧ (p && decide (D < 2)) = false) := by
              by_cases h : D < 2
              · cases p
                · exact Or.inr ⟨Or.inr rfl, rfl⟩
                · exact Or.inl ⟨rfl, by simpa using (by omega : (D : Int) < 2), by simpa using h⟩
              · cases p
                · exact Or.inr ⟨Or.inr rfl, rfl⟩
                · exact Or.inr ⟨Or.inl ⟨rfl, by simpa using (by omega : (2 : Int) ≤ D)⟩, by simpa using (by omega : 2 ≤ D)⟩
            rcases wp2 with ⟨rfl, q1, q2⟩ | ⟨q1, q2⟩
            · have HF := Lib.hid (show PR = ((0, 0), false) by rw [HL.out, q2]; simp)
              clear HL
              go_wp2_with fail
              ((with_reducible refine (HO.out _).mono ?_); rintro e w' ⟨rfl, hbw⟩)
              obtain ⟨m5, rfl⟩ := grow_mk hbw
              clear hbw
              go_wp2_with fail
              exact bodyPost_ret (v := .tuple #[.agg #[.int .i64 0, .int .i64 0], .int .i64 3]) (by simp [results, Tryd.results17, go_sem, cr0, cr1, lcr]) rfl ⟨(by rw [HF.out]; rfl), (by repeat (first | with_reducible exact hb | (with_reducible refine Below.setCell ?_ ?hq _; case hq => first | (simp; done) | (simp; omega)) | with_reducible refine below_alloc_self ?_ _ | with_reducible refine below_grow ?_ _))⟩
            · have hl2 := HL.out
              rw [q2] at hl2
              clear HL q2
              have hl3 : PR = if mayB ((N : Int), (D : Int)) then (((N : Int), (D : Int)), true) else ((0, 0), false) := by rw [hl2]; simp [signF]
              clear hl2
              have h64 : Is64 ((N : Int), (D : Int)) := by unfold Is64; simp only; omega
              have hm := fun w => rmay_any ((N : Int), (D : Int)) w h64
              cases hmb : mayB ((N : Int), (D : Int)) with
              | false =>
                rw [hmb] at hm hl3
                have HM := Lib.hid hm
                have HF := Lib.hid (show PR = ((0, 0), false) by rw [hl3]; rfl)
                clear hm hl3 hmb h64
                rcases q1 with ⟨rfl, q1⟩ | rfl
                all_goals
                  go_wp2_with fail
                  ((with_reducible refine (HM.out _).mono ?_); rintro e w' ⟨rfl, hbw⟩)
                  obtain ⟨m3, rfl⟩ := grow_mk hbw
                  clear hbw
                  have hv := Blk.new wb 23 #[.int .i64 (N : Int), .int .i64 (D : Int)]
                  replace hr := hr.old (.cells #[.int .i64 (N : Int), .int .i64 (D : Int)] 23)
                  replace hb := below_alloc_self hb (.cells #[.int .i64 (N : Int), .int .i64 (D : Int)] 23)
                  have hne : w.heap.size ≠ wb.heap.size := Nat.ne_of_lt lcr
                  replace hv := hv.grow m3
                  replace hr := hr.grow m3
                  replace hb := below_grow hb m3
                  clear cr0 cr1 fcr0 fcr1 lcr
                  generalize wb.heap.size = g at *
                  generalize grow _ m3 = wd at *
                  have cr0 : wd.cell? ⟨w.heap.size, 0, none⟩ = some (.int .i64 0) := (hr).cell 0
                  have fcr0 := (hr).frozen 0
                  have cr1 : wd.cell? ⟨w.heap.size, 1, none⟩ = some (.int .i64 0) := (hr).cell 1
                  have fcr1 := (hr).frozen 1
                  have lcr := (hr).lt
                  have cv0 : wd.cell? ⟨g, 0, none⟩ = some (.int .i64 (N : Int)) := (hv).cell 0
                  have fcv0 := (hv).frozen 0
                  have cv1 : wd.cell? ⟨g, 1, none⟩ = some (.int .i64 (D : Int)) := (hv).cell 1
                  have fcv1 := (hv).frozen 1
                  have lcv := (hv).lt
                  go_wp2_with fail
                  ((with_reducible refine (HO.out _).mono ?_); rintro e w' ⟨rfl, hbw⟩)
                  obtain ⟨m5, rfl⟩ := grow_mk hbw
                  clear hbw
                  go_wp2_with fail
                  exact bodyPost_ret (v := .tuple #[.agg #[.int .i64 0, .int .i64 0], .int .i64 3]) (by simp [results, Tryd.results17, go_sem, cr0, cr1, lcr, cv0, cv1, lcv]) rfl ⟨(by rw [HF.out]; rfl), (by repeat (first | with_reducible exact hb | (with_reducible refine Below.setCell ?_ ?hq _; case hq => first | (simp; done) | (simp; omega)) | with_reducible refine below_alloc_self ?_ _ | with_reducible refine below_grow ?_ _))⟩
              | true =>
                rw [hmb] at hm hl3
                have HM := Lib.hid hm
                have HF := Lib.hid (show PR = (((N : Int), (D : Int)), true) by rw [hl3]; rfl)
                clear hm hl3 hmb h64
                rcases q1 with ⟨rfl, q1⟩ | rfl
                all_goals
                  go_wp2_with fail
                  ((with_reducible refine (HM.out _).mono ?_); rintro e w' ⟨rfl, hbw⟩)
                  obtain ⟨m3, rfl⟩ := grow_mk hbw
                  clear hbw
                  have hv := Blk.new wb 23 #[.int .i64 (N : Int), .int .i64 (D : Int)]
                  replace hr := hr.old (.cells #[.int .i64 (N : Int), .int .i64 (D : Int)] 23)
                  replace hb := below_alloc_self hb (.cells #[.int .i64 (N : Int), .int .i64 (D : Int)] 23)
                  have hne : w.heap.size ≠ wb.heap.size := Nat.ne_of_lt lcr
                  replace hv := hv.grow m3
                  replace hr := hr.grow m3
                  replace hb := below_grow hb m3
                  clear cr0 cr1 fcr0 fcr1 lcr
                  generalize wb.heap.size = g at *
                  generalize grow _ m3 = wd at *
                  have cr0 : wd.cell? ⟨w.heap.size, 0, none⟩ = some (.int .i64 0) := (hr).cell 0
                  have fcr0 := (hr).frozen 0
                  have cr1 : wd.cell? ⟨w.heap.size, 1, none⟩ = some (.int .i64 0) := (hr).cell 1
                  have fcr1 := (hr).frozen 1
                  have lcr := (hr).lt
                  have cv0 : wd.cell? ⟨g, 0, none⟩ = some (.int .i64 (N : Int)) := (hv).cell 0
                  have fcv0 := (hv).frozen 0
                  have cv1 : wd.cell? ⟨g, 1, none⟩ = some (.int .i64 (D : Int)) := (hv).cell 1
                  have fcv1 := (hv).frozen 1
                  have lcv := (hv).lt
                  go_wp2_with fail
                  exact bodyPost_ret (v := .tuple #[.agg #[.int .i64 (N : Int), .int .i64 (D : Int)], .int .i64 0]) (by simp [results, Tryd.results17, go_sem, cr0, cr1, lcr, cv0, cv1, lcv]) rfl ⟨(by rw [HF.out]; rfl), (by repeat (first | with_reducible exact hb | (with_reducible refine Below.setCell ?_ ?hq _; case hq => first | (simp; done) | (simp; omega)) | with_reducible refine below_alloc_self ?_ _ | with_reducible refine below_grow ?_ _))⟩
    · obtain rfl : neg = true := hneg.symm
      have ht := HT.out
      simp only [behindF, if_true, List.tail_cons] at ht
      subst ht
      clear HT hneg hs
      have hexa : (⟨(45 :: b).toArray⟩ : ByteArray).extract 1 (b.length + 1) = ⟨b.toArray⟩ := by rw [ByteArray.extract_mk]; simp
      go_enter Tryd.func17, Tryd.ntmps17
      go_upto_block 0 with fail
      have hb : Below w.heap.size w (w.alloc (.cells #[.int .i64 0, .int .i64 0] 23)) := below_box _ _
      have hr : Blk (w.alloc (.cells #[.int .i64 0, .int .i64 0] 23)) w.heap.size 23 #[.int .i64 0, .int .i64 0] := Blk.new _ _ _
      generalize w.alloc _ = wv at *
      go_cut [6, 7, 8] (fun s6 s7 s8 wx => s6 = .string ⟨top.toArray⟩ ∧ s7 = .string ⟨low.toArray⟩ ∧ s8 = .bool p ∧ Below w.heap.size w wx ∧ Blk wx w.heap.size 23 #[.int .i64 0, .int .i64 0])
      case first =>
        go_wp2_with fail
        go_loopg [31, 6, 7, 8] (b).length (fun k s s6 s7 s8 wr => ∃ (i : Nat), s = .int .i64 i ∧ s6 = .string ⟨(b).toArray⟩ ∧ s7 = .string ⟨#[49]⟩ ∧ s8 = .bool false ∧ wr = wv ∧ Hid (((b).take i).all (· != 47) = true) ∧ i ≤ (b).length ∧ (b).length - i ≤ k)
        case atStart => exact ⟨0, rfl, rfl, rfl, rfl, rfl, Lib.hid rfl, Nat.zero_le _, by omega⟩
        case round =>
          obtain ⟨i, rfl, rfl, rfl, rfl, rfl, hpre, hle, hk⟩ := hrel
          by_cases hi : i < (b).length
          · have gi : decide ((i : Int) < (b.length : Int)) = true := by (try simp only [List.length_cons, List.length_nil] at hi); simp; omega
            have hi2 : i < b.length := hi
            have hst : ((b).take (i + 1)).all (· != 47) = ((b)[i]'hi != 47) := by
              rw [List.take_add_one, List.getElem?_eq_getElem hi, List.all_append, hpre.out]
              simp
            have hta := fun hc => top_at hi hc hpre.out
            rw [HT1.out, HT2.out, HT3.out] at hta
            by_cases h47 : (b)[i]'hi = 47
            · obtain ⟨e1, e2, e3⟩ := hta h47
              have hex1 : (⟨(b).toArray⟩ : ByteArray).extract 0 i = ⟨top.toArray⟩ := by rw [ext_take, e1]
              have hex2 : (⟨(b).toArray⟩ : ByteArray).extract (i + 1) (b.length) = ⟨low.toArray⟩ := (ext_drop _ _ rfl).trans (by rw [e2])
              clear hst hta e1 e2
              subst e3
              have gle : decide ((i : Int) + 1 ≤ (b.length : Int)) = true := by (try simp only [List.length_cons, List.length_nil] at hi); simp; omega
              go_wp2_with fail
              refine wp_region_grow (by kernel_rfl) (by kernel_rfl) ?_
              repeat (go_big_quiet_step (fail))
              refine wpQuiet_nil ?_
              rintro _ ⟨m3, rfl⟩
              go_wp2_with fail
              go_meet
              case rel => exact ⟨rfl, rfl, rfl, below_grow hb m3, hr.grow m3⟩
            · have HP := Lib.hid (show ((b).take (i + 1)).all (· != 47) = true by rw [hst]; simpa using h47)
              have g47 : (((((b)[i]'hi).toNat : Nat) : Int) == 47) = false := by
                rw [beq_eq_false_iff_ne]
                intro e
                exact h47 (by rw [← UInt8.toNat_inj]; show ((b)[i]'hi).toNat = 47; omega)
              clear hst hta h47
              generalize hc : (b)[i]'hi = c at *
              go_wp2_with fail
              go_roundg ((b).length - (i + 1))
              case measure => omega
              case rel => exact ⟨i + 1, by go_num, rfl, rfl, rfl, rfl, HP, hi, by omega⟩
          · obtain rfl : i = (b).length := by omega
            have hp2 := hpre.out
            rw [List.take_length] at hp2
            obtain ⟨e1, e2, e3⟩ := top_end hp2
            rw [HT1.out] at e1
            rw [HT2.out] at e2
            rw [HT3.out] at e3
            subst e1 e2 e3
            clear hpre hp2
            go_wp2_with fail
            go_meet
            case rel => exact ⟨rfl, rfl, rfl, hb, hr⟩
      case rest =>
        clear HT1 HT2 HT3
        obtain ⟨rfl, rfl, rfl, hb, hr⟩ := hcut
        go_wp2_with fail
        ((with_reducible refine (HC1.out _).mono ?_); rintro e w' ⟨⟨k1, rfl, hk1⟩, hbw⟩)
        obtain ⟨m1, rfl⟩ := grow_mk hbw
        clear hbw
        replace hb := below_grow hb m1
        replace hr := hr.grow m1
        generalize grow _ m1 = wa at *
        go_wp2_with fail
        ((with_reducible refine (HC2.out _).mono ?_); rintro e w' ⟨⟨k2, rfl, hk2⟩, hbw⟩)
        obtain ⟨m2, rfl⟩ := grow_mk hbw
        clear hbw
        replace hb := below_grow hb m2
        replace hr := hr.grow m2
        generalize grow _ m2 = wb at *
        have cr0 : wb.cell? ⟨w.heap.size, 0, none⟩ = some (.int .i64 0) := (hr).cell 0
        have fcr0 := (hr).frozen 0
        have cr1 : wb.cell? ⟨w.heap.size, 1, none⟩ = some (.int .i64 0) := (hr).cell 1
        have fcr1 := (hr).frozen 1
        have lcr := (hr).lt
        cases ok with
        | false =>
          have HF := Lib.hid (show PR = ((0, 0), false) by rw [HL.out]; simp)
          go_wp2_with fail
          ((with_reducible refine (HO.out _).mono ?_); rintro e w' ⟨rfl, hbw⟩)
          obtain ⟨m5, rfl⟩ := grow_mk hbw
          clear hbw
          go_wp2_with fail
          exact bodyPost_ret (v := .tuple #[.agg #[.int .i64 0, .int .i64 0], .int .i64 3]) (by simp [results, Tryd.results17, go_sem, cr0, cr1, lcr]) rfl ⟨(by rw [HF.out]; rfl), (by repeat (first | with_reducible exact hb | (with_reducible refine Below.setCell ?_ ?hq _; case hq => first | (simp; done) | (simp; omega)) | with_reducible refine below_alloc_self ?_ _ | with_reducible refine below_grow ?_ _))⟩
        | true =>
          obtain rfl := hk1 rfl
          have hN := hNle rfl
          clear hk1 hNle
          cases too with
          | false =>
            have HF := Lib.hid (show PR = ((0, 0), false) by rw [HL.out]; simp)
            go_wp2_with fail
            ((with_reducible refine (HO.out _).mono ?_); rintro e w' ⟨rfl, hbw⟩)
            obtain ⟨m5, rfl⟩ := grow_mk hbw
            clear hbw
            go_wp2_with fail
            exact bodyPost_ret (v := .tuple #[.agg #[.int .i64 0, .int .i64 0], .int .i64 3]) (by simp [results, Tryd.results17, go_sem, cr0, cr1, lcr]) rfl ⟨(by rw [HF.out]; rfl), (by repeat (first | with_reducible exact hb | (with_reducible refine Below.setCell ?_ ?hq _; case hq => first | (simp; done) | (simp; omega)) | with_reducible refine below_alloc_self ?_ _ | with_reducible refine below_grow ?_ _))⟩
          | true =>
            obtain rfl := hk2 rfl
            have hD := hDle rfl
            clear hk2 hDle
            have wp2 : (p = true ∧ decide ((D : Int) < 2) = true ∧ (p && decide (D < 2)) = true) ∨ (((p = true ∧ decide ((D : Int) < 2) = false) ∨ p = false) ∧ (p && decide (D < 2)) = false) := by
              by_cases h : D < 2
              · cases p
                · exact Or.inr ⟨Or.inr rfl, rfl⟩
                · exact Or.inl ⟨rfl, by simpa using (by omega : (D : Int) < 2), by simpa using h⟩
              · cases p
                · exact Or.inr ⟨Or.inr rfl, rfl⟩
                · exact Or.inr ⟨Or.inl ⟨rfl, by simpa using (by omega : (2 : Int) ≤ D)⟩, by simpa using (by omega : 2 ≤ D)⟩
            rcases wp2 with ⟨rfl, q1, q2⟩ | ⟨q1, q2⟩
            · have HF := Lib.hid (show PR = ((0, 0), false) by rw [HL.out, q2]; simp)
              clear HL
              go_wp2_with fail
              ((with_reducible refine (HO.out _).mono ?_); rintro e w' ⟨rfl, hbw⟩)
              obtain ⟨m5, rfl⟩ := grow_mk hbw
              clear hbw
              go_wp2_with fail
              exact bodyPost_ret (v := .tuple #[.agg #[.int .i64 0, .int .i64 0], .int .i64 3]) (by simp [results, Tryd.results17, go_sem, cr0, cr1, lcr]) rfl ⟨(by rw [HF.out]; rfl), (by repeat (first | with_reducible exact hb | (with_reducible refine Below.setCell ?_ ?hq _; case hq => first | (simp; done) | (simp; omega)) | with_reducible refine below_alloc_self ?_ _ | with_reducible refine below_grow ?_ _))⟩
            · have hl2 := HL.out
              rw [q2] at hl2
              clear HL q2
              by_cases hz : N = 0
              · have hz1 : ((N : Int) == 0) = true := by simpa using hz
                have HF := Lib.hid (show PR = ((0, 0), false) by rw [hl2]; simp [hz])
                clear hl2 hz
                rcases q1 with ⟨rfl, q1⟩ | rfl
                all_goals
                  go_wp2_with fail
                  ((with_reducible refine (HO.out _).mono ?_); rintro e w' ⟨rfl, hbw⟩)
                  obtain ⟨m5, rfl⟩ := grow_mk hbw
                  clear hbw
                  go_wp2_with fail
                  exact bodyPost_ret (v := .tuple #[.agg #[.int .i64 0, .int .i64 0], .int .i64 3]) (by simp [results, Tryd.results17, go_sem, cr0, cr1, lcr]) rfl ⟨(by rw [HF.out]; rfl), (by repeat (first | with_reducible exact hb | (with_reducible refine Below.setCell ?_ ?hq _; case hq => first | (simp; done) | (simp; omega)) | with_reducible refine below_alloc_self ?_ _ | with_reducible refine below_grow ?_ _))⟩
              · have hz1 : ((N : Int) == 0) = false := by simpa using hz
                have hz2 : (N == 0) = false := by simpa using hz
                rw [hz2] at hl2
                have hl3 : PR = if mayB ((-(N : Int)), (D : Int)) then (((-(N : Int)), (D : Int)), true) else ((0, 0), false) := by rw [hl2]; simp [signF]
                clear hl2 hz hz2
                have h64 : Is64 ((-(N : Int)), (D : Int)) := by unfold Is64; simp only; omega
                have hm := fun w => rmay_any ((-(N : Int)), (D : Int)) w h64
                cases hmb : mayB ((-(N : Int)), (D : Int)) with
                | false =>
                  rw [hmb] at hm hl3
                  have HM := Lib.hid hm
                  have HF := Lib.hid (show PR = ((0, 0), false) by rw [hl3]; rfl)
                  clear hm hl3 hmb h64
                  rcases q1 with ⟨rfl, q1⟩ | rfl
                  all_goals
                    go_wp2_with fail
                    ((with_reducible refine (HM.out _).mono ?_); rintro e w' ⟨rfl, hbw⟩)
                    obtain ⟨m3, rfl⟩ := grow_mk hbw
                    clear hbw
                    have hv := Blk.new wb 23 #[.int .i64 (-(N : Int)), .int .i64 (D : Int)]
                    replace hr := hr.old (.cells #[.int .i64 (-(N : Int)), .int .i64 (D : Int)] 23)
                    replace hb := below_alloc_self hb (.cells #[.int .i64 (-(N : Int)), .int .i64 (D : Int)] 23)
                    have hne : w.heap.size ≠ wb.heap.size := Nat.ne_of_lt lcr
                    replace hv := hv.grow m3
                    replace hr := hr.grow m3
                    replace hb := below_grow hb m3
                    clear cr0 cr1 fcr0 fcr1 lcr
                    generalize wb.heap.size = g at *
                    generalize grow _ m3 = wd at *
                    have cr0 : wd.cell? ⟨w.heap.size, 0, none⟩ = some (.int .i64 0) := (hr).cell 0
                    have fcr0 := (hr).frozen 0
                    have cr1 : wd.cell? ⟨w.heap.size, 1, none⟩ = some (.int .i64 0) := (hr).cell 1
                    have fcr1 := (hr).frozen 1
                    have lcr := (hr).lt
                    have cv0 : wd.cell? ⟨g, 0, none⟩ = some (.int .i64 (-(N : Int))) := (hv).cell 0
                    have fcv0 := (hv).frozen 0
                    have cv1 : wd.cell? ⟨g, 1, none⟩ = some (.int .i64 (D : Int)) := (hv).cell 1
                    have fcv1 := (hv).frozen 1
                    have lcv := (hv).lt
                    go_wp2_with fail
                    ((with_reducible refine (HO.out _).mono ?_); rintro e w' ⟨rfl, hbw⟩)
                    obtain ⟨m5, rfl⟩ := grow_mk hbw
                    clear hbw
                    go_wp2_with fail
                    exact bodyPost_ret (v := .tuple #[.agg #[.int .i64 0, .int .i64 0], .int .i64 3]) (by simp [results, Tryd.results17, go_sem, cr0, cr1, lcr, cv0, cv1, lcv]) rfl ⟨(by rw [HF.out]; rfl), (by repeat (first | with_reducible exact hb | (with_reducible refine Below.setCell ?_ ?hq _; case hq => first | (simp; done) | (simp; omega)) | with_reducible refine below_alloc_self ?_ _ | with_reducible refine below_grow ?_ _))⟩
                | true =>
                  rw [hmb] at hm hl3
                  have HM := Lib.hid hm
                  have HF := Lib.hid (show PR = (((-(N : Int)), (D : Int)), true) by rw [hl3]; rfl)
                  clear hm hl3 hmb h64
                  rcases q1 with ⟨rfl, q1⟩ | rfl
                  all_goals
                    go_wp2_with fail
                    ((with_reducible refine (HM.out _).mono ?_); rintro e w' ⟨rfl, hbw⟩)
                    obtain ⟨m3, rfl⟩ := grow_mk hbw
                    clear hbw
                    have hv := Blk.new wb 23 #[.int .i64 (-(N : Int)), .int .i64 (D : Int)]
                    replace hr := hr.old (.cells #[.int .i64 (-(N : Int)), .int .i64 (D : Int)] 23)
                    replace hb := below_alloc_self hb (.cells #[.int .i64 (-(N : Int)), .int .i64 (D : Int)] 23)
                    have hne : w.heap.size ≠ wb.heap.size := Nat.ne_of_lt lcr
                    replace hv := hv.grow m3
                    replace hr := hr.grow m3
                    replace hb := below_grow hb m3
                    clear cr0 cr1 fcr0 fcr1 lcr
                    generalize wb.heap.size = g at *
                    generalize grow _ m3 = wd at *
                    have cr0 : wd.cell? ⟨w.heap.size, 0, none⟩ = some (.int .i64 0) := (hr).cell 0
                    have fcr0 := (hr).frozen 0
                    have cr1 : wd.cell? ⟨w.heap.size, 1, none⟩ = some (.int .i64 0) := (hr).cell 1
                    have fcr1 := (hr).frozen 1
                    have lcr := (hr).lt
                    have cv0 : wd.cell? ⟨g, 0, none⟩ = some (.int .i64 (-(N : Int))) := (hv).cell 0
                    have fcv0 := (hv).frozen 0
                    have cv1 : wd.cell? ⟨g, 1, none⟩ = some (.int .i64 (D : Int)) := (hv).cell 1
                    have fcv1 := (hv).frozen 1
                    have lcv := (hv).lt
                    go_wp2_with fail
                    exact bodyPost_ret (v := .tuple #[.agg #[.int .i64 (-(N : Int)), .int .i64 (D : Int)], .int .i64 0]) (by simp [results, Tryd.results17, go_sem, cr0, cr1, lcr, cv0, cv1, lcv]) rfl ⟨(by rw [HF.out]; rfl), (by repeat (first | with_reducible exact hb | (with_reducible refine Below.setCell ?_ ?hq _; case hq => first | (simp; done) | (simp; omega)) | with_reducible refine below_alloc_self ?_ _ | with_reducible refine below_grow ?_ _))⟩

end Go.Proofs.YtgjhaanpkfheeaaDoor
