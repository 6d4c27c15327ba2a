/- Fractions out of texts: the reference's numbers. -/
import Derived.Test.YtgjhaanpkfheeaaDoorTextV
namespace Go.Proofs.YtgjhaanpkfheeaaDoor
set_option linter.unusedVariables false
set_option linter.unusedSimpArgs false
open Go.RowKit Go.Lib

set_option maxHeartbeats 1000000 in
theorem digit_any (c : UInt8) (w : World) : Calls Tryd.prog 57 #[.int .u8 (c.toNat : Int)] w fun e w' => e = .returned (.bool (isD c)) ∧ w = w' := by
  have hbd := UInt8.toNat_lt c
  have hD : isD c = (decide ((48 : Int) ≤ c.toNat) && decide ((c.toNat : Int) ≤ 57)) := by
    unfold isD
    rw [Bool.eq_iff_iff]
    simp
    omega
  rw [hD]
  generalize c.toNat = d at *
  obtain ⟨b1, g1⟩ : ∃ b, decide ((48 : Int) ≤ d) = b := ⟨_, rfl⟩
  obtain ⟨b2, g2⟩ : ∃ b, decide ((d : Int) ≤ 57) = b := ⟨_, rfl⟩
  rw [g1, g2]
  clear hD
  cases b1 with
  | false =>
    go_enter Tryd.func57, Tryd.ntmps57
    go_wp2_with fail
    go_ret
    exact ⟨rfl, rfl⟩
  | true =>
    go_enter Tryd.func57, Tryd.ntmps57
    go_wp2_with fail
    go_ret
    exact ⟨ret_bool rfl, rfl⟩

set_option maxRecDepth 20000 in
set_option maxHeartbeats 4000000 in
theorem count_any (l : List UInt8) (w : World) (hl : l.length ≤ 9223372036854775807) :
    Calls Tryd.prog 35 #[.string ⟨l.toArray⟩] w fun e w' => (∃ k : Int, e = .returned (.tuple #[.int .i64 k, .bool (countF l).2]) ∧ ((countF l).2 = true → k = (countF l).1)) ∧ Below w.heap.size w w' := by
  cases l with
  | nil =>
    go_enter Tryd.func35, Tryd.ntmps35
    go_wp2_with fail
    go_ret2
    exact ⟨⟨0, rfl, fun h => by cases h⟩, Below.refl _ _⟩
  | cons a r =>
    by_cases h19 : 19 < (a :: r).length
    · have hF : countF (a :: r) = (0, false) := by unfold countF; rw [if_pos (Or.inr (Or.inl h19))]
      rw [hF]
      have g1 : decide ((19 : Int) < (r.length : Int) + 1) = true := by simp only [List.length_cons] at h19; simp; omega
      clear h19 hF
      go_enter Tryd.func35, Tryd.ntmps35
      go_wp2_with fail
      go_ret2
      exact ⟨⟨0, rfl, fun h => by cases h⟩, Below.refl _ _⟩
    · by_cases hz : a = 48 ∧ 1 < (a :: r).length
      · obtain ⟨rfl, hz⟩ := hz
        have hF : countF (48 :: r) = (0, false) := by unfold countF; rw [if_pos (Or.inr (Or.inr ⟨rfl, hz⟩))]
        rw [hF]
        have g1 : decide ((19 : Int) < (r.length : Int) + 1) = false := by simp only [List.length_cons] at h19; simp; omega
        have g2 : decide ((1 : Int) < (r.length : Int) + 1) = true := by simp only [List.length_cons] at hz; simp; omega
        clear h19 hF hz
        go_enter Tryd.func35, Tryd.ntmps35
        go_wp2_with fail
        go_ret2
        exact ⟨⟨0, rfl, fun h => by cases h⟩, Below.refl _ _⟩
      · obtain ⟨cap, w1, hrun, hb1, hlt1, hcells⟩ := bytes_conv (a :: r) w
        have ways : ((a.toNat : Int) == 48) = false ∨ (((a.toNat : Int) == 48) = true ∧ decide ((1 : Int) < (r.length : Int) + 1) = false) := by
          by_cases h : a = 48
          · right
            subst h
            exact ⟨rfl, by have h2 : ¬ 1 < ((48 : UInt8) :: r).length := fun h => hz ⟨rfl, h⟩; simp only [List.length_cons] at h2; simp; omega⟩
          · left
            rw [beq_eq_false_iff_ne]
            intro e
            exact h (by rw [← UInt8.toNat_inj]; show a.toNat = 48; omega)
        have g1 : decide ((19 : Int) < (r.length : Int) + 1) = false := by simp only [List.length_cons] at h19; simp; omega
        have hlaw : countF (a :: r) = if (a :: r).all isD then (valD (a :: r), decide (valD (a :: r) ≤ 9223372036854775807)) else (0, false) := by
          unfold countF
          rw [if_neg]
          rintro (h | h | ⟨h1, h2⟩)
          · cases h
          · exact h19 h
          · exact hz ⟨by simpa using h1, h2⟩
        obtain ⟨CF, hCF⟩ : ∃ CF, countF (a :: r) = CF := ⟨_, rfl⟩
        rw [hCF] at hlaw ⊢
        have hn19 : (a :: r).length ≤ 19 := by omega
        obtain ⟨m, hm⟩ : ∃ m, a :: r = m := ⟨_, rfl⟩
        obtain ⟨n, hn⟩ : ∃ n, (a :: r).length = n := ⟨_, rfl⟩
        rw [hn] at hrun hn19
        rw [hm] at hlaw hcells hn
        have HC := Lib.hid hcells
        have HB1 := Lib.hid hb1
        have HL := Lib.hid hlaw
        have HN := Lib.hid hn
        clear hCF hlaw hcells hb1 hm hn hz h19 hl
        rcases ways with g2 | ⟨g2, g3⟩
        all_goals
          go_enter Tryd.func35, Tryd.ntmps35
          go_wp2_with fail
          go_loopg [27, 4] n (fun k s t wr => ∃ (i : Nat), s = .int .i64 i ∧ t = .int .u64 (valD (m.take i)) ∧ wr = w1 ∧ (m.take i).all isD = true ∧ i ≤ n ∧ n - i ≤ k)
          case atStart => exact ⟨0, rfl, rfl, rfl, rfl, Nat.zero_le _, by omega⟩
          case round =>
            obtain ⟨i, rfl, rfl, rfl, hpre, hle2, hk⟩ := hrel
            have HP := Lib.hid hpre
            clear hpre
            by_cases hi : i < n
            · have gi : decide ((i : Int) < n) = true := by simpa using hi
              have him : i < m.length := by rw [HN.out]; exact hi
              have hr : m[i]? = some (m[i]'him) := List.getElem?_eq_getElem him
              have hst : valD (m.take (i + 1)) = valD (m.take i) * 10 + ((m[i]'him).toNat - 48) := by
                rw [List.take_add_one, hr]
                exact valD_snoc _ _
              have hal : (m.take (i + 1)).all isD = isD (m[i]'him) := by
                rw [List.take_add_one, hr, List.all_append, HP.out]
                simp
              have hcc := HC.out i _ hr
              have hmem := List.getElem_mem him
              have hv : valD (m.take i) < 10 ^ 18 := by
                have h1 := val_lt (m.take i) HP.out
                rw [List.length_take, Nat.min_eq_left (by omega)] at h1
                exact Nat.lt_of_lt_of_le h1 (Nat.pow_le_pow_right (by decide) (by omega))
              have hv2 : valD (m.take i) < 1000000000000000000 := hv
              have HD := Lib.hid (fun w => digit_any (m[i]'him) w)
              have HM := Lib.hid (show isD (m[i]'him) = false → m.all isD = false from fun h => by
                rw [List.all_eq_false]
                exact ⟨_, hmem, by simp [h]⟩)
              clear hmem
              generalize m[i]'him = c at *
              have HS := Lib.hid hst
              have HAL := Lib.hid hal
              have hbd := UInt8.toNat_lt c
              clear hst hal hr hv him
              cases hd : isD c with
              | false =>
                have hD := HD.out
                rw [hd] at hD
                have HD := Lib.hid hD
                have HF := Lib.hid (show CF = (0, false) by rw [HL.out, HM.out hd]; rfl)
                clear hD hd HM
                go_wp2_with fail
                go_wp2_with fail
                ((with_reducible refine (HD.out _).mono ?_); rintro e w' ⟨rfl, rfl⟩)
                go_wp2_with fail
                go_ret2
                exact ⟨⟨0, by rw [HF.out]; first | done | rfl, fun h => by rw [HF.out] at h; cases h⟩, HB1.out⟩
              | true =>
                have hD := HD.out
                rw [hd] at hD
                have HD := Lib.hid hD
                have HAL := Lib.hid (show (m.take (i + 1)).all isD = true by rw [HAL.out, hd])
                clear HM
                simp only [isD, Bool.and_eq_true, decide_eq_true_eq] at hd
                obtain ⟨c1, c2⟩ := hd
                generalize valD (m.take i) = v at *
                generalize hcn : c.toNat = d at *
                go_wp2_with fail
                ((with_reducible refine (HD.out _).mono ?_); rintro e w' ⟨rfl, rfl⟩)
                go_wp2_with fail
                go_roundg (n - (i + 1))
                case measure => omega
                case rel => exact ⟨i + 1, by go_num, congrArg (Value.int .u64) (by rw [HS.out]; omega), rfl, HAL.out, hi, by omega⟩
            · obtain rfl : i = n := by omega
              have htk : m.take i = m := List.take_of_length_le (by rw [HN.out]; exact Nat.le_refl _)
              have hall := HP.out
              rw [htk] at hall ⊢
              have hv := val_lt m hall
              have h19 := pow_19 hn19
              rw [HN.out] at hv
              have hv2 : valD m < 10000000000000000000 := Nat.lt_of_lt_of_le hv h19
              have hF : CF = (valD m, decide (valD m ≤ 9223372036854775807)) := by rw [HL.out, hall]; rfl
              clear hv h19 hrun htk hall
              obtain ⟨v, hvm⟩ : ∃ v, valD m = v := ⟨_, rfl⟩
              rw [hvm] at hv2 hF ⊢
              have HF := Lib.hid hF
              clear hF hvm
              by_cases hv : v ≤ 9223372036854775807
              · have gv : decide ((v : Int) ≤ 9223372036854775807) = true := by simp; omega
                have gv2 : decide (v ≤ 9223372036854775807) = true := by simpa using hv
                go_wp2_with fail
                go_ret2
                exact ⟨⟨v, by rw [HF.out, gv2]; first | done | rfl, fun _ => by rw [HF.out]⟩, HB1.out⟩
              · have gv : decide ((v : Int) ≤ 9223372036854775807) = false := by simp; omega
                have gv2 : decide (v ≤ 9223372036854775807) = false := by simpa using hv
                go_wp2_with fail
                go_ret2
                exact ⟨⟨wrap64 v, by rw [HF.out, gv2]; first | done | rfl, fun h => by rw [HF.out, gv2] at h; cases h⟩, HB1.out⟩

end Go.Proofs.YtgjhaanpkfheeaaDoor
