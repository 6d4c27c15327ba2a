/- Fractions as texts: the number at a text's front. -/
import Derived.Test.YtgjhaanpkfheeaaDoorTextW
import Derived.OwnWalk
namespace Go.Proofs.YtgjhaanpkfheeaaDoor
set_option linter.unusedVariables false
set_option linter.unusedSimpArgs false
open Go.RowKit Go.Lib

theorem bytes_conv (m : List UInt8) (w : World) : ∃ (cap : Nat) (w1 : World), (convert 9 59 (.string ⟨m.toArray⟩)).run Tryd.prog w = .ok (.slice (some ⟨w.heap.size, 0, none⟩) m.length cap) w1 ∧ Below w.heap.size w w1 ∧
    w.heap.size < w1.heap.size ∧ ∀ (i : Nat) (c : UInt8), m[i]? = some c → w1.cell? ⟨w.heap.size, i, none⟩ = some (.int .u8 (c.toNat : Int)) := by
  have h := run_bytes_of_string (P := Tryd.prog) w 9 59 5 ⟨m.toArray⟩ Tryd.underlying9 Tryd.underlying59 Tryd.underlying5
  refine ⟨_, _, h, ((Below.refl _ _).drew.alloc (Nat.le_refl _) _), by simp, fun i c hc => ?_⟩
  obtain ⟨hi, rfl⟩ := List.getElem?_eq_some_iff.1 hc
  rw [cell_of_row _ w.heap.size i _ _ _ (heap_alloc_new w.drew _)]
  exact bytesRow_at ⟨m.toArray⟩ _ i hi

theorem val_lt : ∀ (l : List UInt8), l.all isD = true → valD l < 10 ^ l.length := by
  intro l
  refine snoc_ind (P := fun l => l.all isD = true → valD l < 10 ^ l.length) ?_ ?_ l
  · intro _; decide
  · intro l c ih h
    rw [List.all_append] at h
    simp only [List.all_cons, List.all_nil, Bool.and_true, Bool.and_eq_true, isD, decide_eq_true_eq] at h
    have := ih h.1
    rw [valD_snoc, List.length_append, List.length_singleton, Nat.pow_succ]
    omega
theorem pow_19 {k : Nat} (h : k ≤ 19) : 10 ^ k ≤ 10000000000000000000 := Nat.le_trans (Nat.pow_le_pow_right (by decide) h) (by decide)

set_option maxRecDepth 20000 in
set_option maxHeartbeats 2000000 in
theorem whole_any (l : List UInt8) (w : World) (hl : l.length ≤ 9223372036854775807) :
    Calls Tryd.prog 33 #[.string ⟨l.toArray⟩] w fun e w' => (∃ k : Int, e = .returned (.tuple #[.int .i64 k, .string ⟨(wholeF l).2.1.toArray⟩, .bool (wholeF l).2.2]) ∧ ((wholeF l).2.2 = true → k = (wholeF l).1)) ∧ Below w.heap.size w w' := by
  have HD := Lib.hid (fun w => digits_any l w hl)
  have hle : (l.takeWhile isD).length ≤ l.length := (List.takeWhile_prefix _).length_le
  unfold wholeF
  obtain ⟨n, hn⟩ : ∃ n, (l.takeWhile isD).length = n := ⟨_, rfl⟩
  rw [hn] at HD hle ⊢
  by_cases h0 : n = 0 ∨ 19 < n
  · rw [if_pos h0]
    have ways : ((n : Int) == 0) = true ∨ (((n : Int) == 0) = false ∧ decide ((19 : Int) < n) = true) := by
      simp only [beq_iff_eq, beq_eq_false_iff_ne, decide_eq_true_eq]; omega
    clear h0
    rcases ways with g1 | ⟨g1, g2⟩
    all_goals
      go_enter Tryd.func33, Tryd.ntmps33
      go_wp2_with fail
      ((with_reducible refine (HD.out _).mono ?_); rintro e w' ⟨rfl, rfl⟩)
      go_wp2_with fail
      go_ret3
      exact ⟨⟨0, rfl, fun h => by cases h⟩, Below.refl _ _⟩
  · rw [if_neg h0]
    have g1 : ((n : Int) == 0) = false := by simp; omega
    have g2 : decide ((19 : Int) < n) = false := by simp; omega
    have hall : ((l.takeWhile isD)).all isD = true := List.all_takeWhile
    have htd : l.takeWhile isD ++ l.dropWhile isD = l := List.takeWhile_append_dropWhile
    generalize l.takeWhile isD = m at *
    generalize l.dropWhile isD = r at *
    obtain ⟨cap, w1, hrun, hb1, hlt1, hcells⟩ := bytes_conv m w
    have hex : (⟨l.toArray⟩ : ByteArray).extract 0 n = ⟨m.toArray⟩ := by
      rw [ByteArray.extract_mk, ← htd, ← hn]; simp
    have hex2 : (⟨l.toArray⟩ : ByteArray).extract n l.length = ⟨r.toArray⟩ := by
      rw [ByteArray.extract_mk, ← htd, ← hn]; simp
    rw [hn] at hrun
    have hn19 : n ≤ 19 := by omega
    have HC := Lib.hid hcells
    have HA := Lib.hid hall
    have HB1 := Lib.hid hb1
    clear hcells hall hb1 htd
    go_enter Tryd.func33, Tryd.ntmps33
    go_wp2_with fail
    ((with_reducible refine (HD.out _).mono ?_); rintro e w' ⟨rfl, rfl⟩)
    go_wp2_with fail
    go_loopg [22, 6] n (fun k s t wr => ∃ (i : Nat), s = .int .i64 i ∧ t = .int .u64 (valD (m.take i)) ∧ wr = w1 ∧ i ≤ n ∧ n - i ≤ k)
    case atStart => exact ⟨0, rfl, rfl, rfl, Nat.zero_le _, by omega⟩
    case round =>
      obtain ⟨i, rfl, rfl, rfl, hle2, hk⟩ := hrel
      by_cases hi : i < n
      · have gi : decide ((i : Int) < n) = true := by simpa using hi
        have hr : m[i]? = some (m[i]'(by omega)) := List.getElem?_eq_getElem (by omega)
        have hst : valD (m.take (i + 1)) = valD (m.take i) * 10 + ((m[i]'(by omega)).toNat - 48) := by
          rw [List.take_add_one, hr]
          exact valD_snoc _ _
        have hcc := HC.out i _ hr
        have hdg : isD (m[i]'(by omega)) = true := List.all_eq_true.1 HA.out _ (List.getElem_mem _)
        have hv : valD (m.take i) < 10 ^ 18 := by
          have h1 := val_lt (m.take i) (by rw [List.all_eq_true]; exact fun x hx => List.all_eq_true.1 HA.out x (List.mem_of_mem_take hx))
          rw [List.length_take, Nat.min_eq_left (by omega)] at h1
          exact Nat.lt_of_lt_of_le h1 (Nat.pow_le_pow_right (by decide) (by omega))
        have hv2 : valD (m.take i) < 1000000000000000000 := hv
        generalize m[i]'(by omega) = c at *
        simp only [isD, Bool.and_eq_true, decide_eq_true_eq] at hdg
        obtain ⟨c1, c2⟩ := hdg
        have HS := Lib.hid hst
        clear hst hr hv hrun hex hex2
        generalize valD (m.take i) = v at *
        generalize hcn : c.toNat = d at *
        go_wp2_with fail
        go_roundg (n - (i + 1))
        case measure => omega
        case rel => exact ⟨i + 1, by go_num, congrArg (Value.int .u64) (by rw [HS.out]; omega), rfl, hi, by omega⟩
      · obtain rfl : i = n := by omega
        rw [show m.take i = m from List.take_of_length_le (by omega)]
        have hv := val_lt m HA.out
        have h19 := pow_19 hn19
        rw [hn] at hv
        have hv2 : valD m < 10000000000000000000 := Nat.lt_of_lt_of_le hv h19
        clear hv h19 hrun hex
        obtain ⟨v, hvm⟩ : ∃ v, valD m = v := ⟨_, rfl⟩
        rw [hvm] at hv2 ⊢
        have HV := Lib.hid hvm
        clear hvm
        by_cases hv : v ≤ 9223372036854775807
        · have gv : decide ((v : Int) ≤ 9223372036854775807) = true := by simp; omega
          have gv2 : decide (v ≤ 9223372036854775807) = true := by simpa using hv
          go_wp2_with fail
          refine wp_region_grow (by kernel_rfl) (by kernel_rfl) ?_
          repeat (go_big_quiet_step (fail))
          refine wpQuiet_nil ?_
          rintro _ ⟨m3, rfl⟩
          go_wp2_with fail
          go_ret3
          exact ⟨⟨v, by rw [HV.out, gv2]; first | done | rfl, fun _ => by rw [HV.out]⟩, below_grow HB1.out m3⟩
        · have gv : decide ((v : Int) ≤ 9223372036854775807) = false := by simp; omega
          have gv2 : decide (v ≤ 9223372036854775807) = false := by simpa using hv
          go_wp2_with fail
          refine wp_region_grow (by kernel_rfl) (by kernel_rfl) ?_
          repeat (go_big_quiet_step (fail))
          refine wpQuiet_nil ?_
          rintro _ ⟨m3, rfl⟩
          go_wp2_with fail
          go_ret3
          exact ⟨⟨wrap64 v, by rw [HV.out, gv2]; first | done | rfl, fun h => by rw [HV.out, gv2] at h; cases h⟩, below_grow HB1.out m3⟩

end Go.Proofs.YtgjhaanpkfheeaaDoor
