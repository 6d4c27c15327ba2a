/- Fractions as texts: the walks. -/
import Derived.Test.YtgjhaanpkfheeaaDoorTextP
import Derived.Deep.LoopGhost
namespace Go.Proofs.YtgjhaanpkfheeaaDoor
set_option linter.unusedVariables false
set_option linter.unusedSimpArgs false
open Go.RowKit Go.Lib

@[go_sem] theorem ba_get (l : List UInt8) (i : Nat) (h : i < (⟨l.toArray⟩ : ByteArray).size) : (⟨l.toArray⟩ : ByteArray)[i]'h = l[i]'h := rfl

theorem take_step {l : List UInt8} {i : Nat} (h : i < l.length) : ((l.drop i).takeWhile isD).length = if isD l[i] then 1 + ((l.drop (i + 1)).takeWhile isD).length else 0 := by
  rw [List.drop_eq_getElem_cons h, List.takeWhile_cons]
  split
  · rw [List.length_cons]; omega
  · rfl

set_option maxRecDepth 20000 in
set_option maxHeartbeats 2000000 in
theorem digits_any (l : List UInt8) (w : World) (hl : l.length ≤ 9223372036854775807) :
    Calls Tryd.prog 56 #[.string ⟨l.toArray⟩] w fun e w' => e = .returned (.int .i64 (l.takeWhile isD).length) ∧ w = w' := by
  go_enter Tryd.func56, Tryd.ntmps56
  go_wp2_with fail
  go_loopg [3] l.length (fun k s wr => ∃ (i : Nat), s = .int .i64 i ∧ wr = w ∧ i ≤ l.length ∧ Hid ((l.takeWhile isD).length = i + ((l.drop i).takeWhile isD).length) ∧ l.length - i ≤ k)
  case atStart => exact ⟨0, rfl, rfl, Nat.zero_le _, Lib.hid (by simp), by omega⟩
  case round =>
    obtain ⟨i, rfl, rfl, hle, hlaw, hk⟩ := hrel
    by_cases hi : i < l.length
    · have gi : decide ((i : Int) < l.length) = true := by simpa using hi
      have hst := take_step hi
      have hlw := hlaw.out
      rw [hst] at hlw
      clear hst hlaw
      generalize hc : l[i] = c at *
      have hbd := UInt8.toNat_lt c
      obtain ⟨b1, g1⟩ : ∃ b, decide ((48 : Int) ≤ c.toNat) = b := ⟨_, rfl⟩
      obtain ⟨b2, g2⟩ : ∃ b, decide ((c.toNat : Int) ≤ 57) = b := ⟨_, rfl⟩
      have hD : isD c = (b1 && b2) := by
        rw [← g1, ← g2]
        unfold isD
        rw [Bool.eq_iff_iff]
        simp
        omega
      rw [hD] at hlw
      clear hD
      cases b1 with
      | false =>
        have HL := Lib.hid (show (l.takeWhile isD).length = i by rw [hlw]; simp)
        clear hlw
        go_wp2_with fail
        go_ret
        exact ⟨ret_int (by rw [HL.out]), rfl⟩
      | true =>
        cases b2 with
        | false =>
          have HL := Lib.hid (show (l.takeWhile isD).length = i by rw [hlw]; simp)
          clear hlw
          go_wp2_with fail
          go_ret
          exact ⟨ret_int (by rw [HL.out]), rfl⟩
        | true =>
          have HL := Lib.hid (show (l.takeWhile isD).length = (i + 1) + ((l.drop (i + 1)).takeWhile isD).length by rw [hlw]; simp; omega)
          clear hlw
          go_wp2_with fail
          go_roundg (l.length - (i + 1))
          case measure => omega
          case rel => exact ⟨i + 1, by go_num, rfl, hi, HL, by omega⟩
    · obtain rfl : i = l.length := by omega
      have hlw := hlaw.out
      rw [List.drop_length] at hlw
      have HL := Lib.hid (show (l.takeWhile isD).length = l.length by rw [hlw]; rfl)
      clear hlw hlaw
      go_wp2_with fail
      go_ret
      exact ⟨ret_int (by rw [HL.out]), rfl⟩

end Go.Proofs.YtgjhaanpkfheeaaDoor
