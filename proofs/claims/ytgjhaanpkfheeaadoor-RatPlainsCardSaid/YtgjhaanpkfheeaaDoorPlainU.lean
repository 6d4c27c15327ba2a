/- Fractions as numbers of a stylesheet: the library's decimal numeral of a number without a sign, at this program. -/
import Derived.Test.YtgjhaanpkfheeaaDoorTextF
import Derived.Shelf.Strconv.Itoa3
namespace Go.Proofs.YtgjhaanpkfheeaaDoor
set_option linter.unusedVariables false
set_option linter.unusedSimpArgs false
open Go.RowKit Go.Shelf

set_option maxRecDepth 20000 in
set_option maxHeartbeats 8000000 in
theorem fmtU_any (u : Nat) (w : World) (hu64 : u < 18446744073709551616) (htab : Pow10 w) :
    Calls Tryd.prog 74 #[.int .u64 u, .int .i64 10] w fun e w' => e = .returned (.string ⟨(Lib.decDigits u).toArray⟩) ∧ Below w.heap.size w w' := by
  have g10 : ((10 : Int) == 10) = true := rfl
  by_cases hi : u < 100
  · have gi : decide ((u : Int) < 100) = true := by simp; omega
    have hs : ∀ W, Calls Tryd.prog 76 #[.int .i64 u] W fun e w' => e = .returned (.string ⟨(Lib.decDigits u).toArray⟩) ∧ w' = W := fun W => Any.internal_strconv_small { Tryd.laysFI with } u hi W
    have HS := Lib.hid hs
    clear hs
    go_enter Tryd.func74, Tryd.ntmps74
    go_wp2_with (first | (go_at_call 76; refine (HS.out _).mono ?_; rintro e w' ⟨rfl, rfl⟩))
    go_ret
    exact ⟨rfl, Below.refl _ _⟩
  · have gi : decide ((u : Int) < 100) = false := by simp; omega
    have hu1 : 1 ≤ u := by omega
    have hnd20 : Lib.nDigits u ≤ 20 := Lib.nDigits_le20 u hu64
    have hH0 : Sort.Holds (fun (b : UInt8) => Value.int .u8 (b.toNat : Int)) (w.alloc (.cells Lib.zeros24 103)) w.heap.size 0 (Array.replicate (Lib.nDigits u) (0 : UInt8)) := fun j hj => by
      have hj' : j < Lib.nDigits u := by simpa using hj
      refine ⟨?_, World.frozen?_alloc_new _ _ _ _⟩
      rw [World.cell?_alloc_new, Lib.zeros24_at _ (by omega), getElem!_pos _ j hj]
      simp
    have hfmt : Calls Tryd.prog 78 _ _ _ := Any.internal_strconv_formatBase10 { Tryd.laysFI with } w.heap.size 0 24 u (Array.replicate (Lib.nDigits u) 0) (w.alloc (.cells Lib.zeros24 103)) hH0 (by rw [Array.size_replicate]; exact Lib.lt_pow_nDigits u) hu64 (by rw [Array.size_replicate]; omega)
    rw [Array.size_replicate] at hfmt
    have hnum : ∀ W, Pow10 W → Calls Tryd.prog 77 #[.int .u64 u] W fun e w' => e = .returned (.int .i64 (Lib.nDigits u)) ∧ w' = W := fun W h => Any.internal_strconv_numDigits { Tryd.laysFI with } u hu1 hu64 W h
    have HT := Lib.hid (Lib.tabIs_alloc htab (.cells Lib.zeros24 103) : Pow10 (w.alloc (.cells Lib.zeros24 103)))
    have hal : Tryd.prog.arrayLen 103 = 24 := by kernel_rfl
    have hel : Tryd.prog.elem 103 = 5 := by kernel_rfl
    have hsl : ∀ W, (Instr.sliceAt 103 (.pointer (some ⟨w.heap.size, 0, none⟩)) none (some (.int .i64 (Lib.nDigits u : Int))) none).run Tryd.prog W = .ok (.slice (some ⟨w.heap.size, 0, none⟩) (Lib.nDigits u) 24) W := fun W => by
      rw [run_sliceAt_array_h W 103 ⟨w.heap.size, 0, none⟩ (by rw [hal, hel]; exact Tryd.underlying103) .i64 (Lib.nDigits u : Int) (by omega) (by rw [hal]; omega), hal, hel, Tryd.sizeOf5]
      go_simp
    have HH0 := Lib.hid hH0
    have HFMT := Lib.hid hfmt
    have HN := Lib.hid hnum
    clear hH0 hal hel htab hfmt hnum
    go_enter Tryd.func74, Tryd.ntmps74
    go_wp2_with (first
      | (go_at_call 77; refine (HN.out _ HT.out).mono ?_; rintro e w' ⟨rfl, rfl⟩))
    go_at_call 78
    refine HFMT.out.mono ?_
    rintro e w' ⟨rfl, k, v', dk, rfl, hF⟩
    have hcv : (convert 59 9 (.slice (some ⟨w.heap.size, 0, none⟩) (Lib.nDigits u) 24)).run Tryd.prog ((Sort.putRow (fun (b : UInt8) => Value.int .u8 (b.toNat : Int)) (w.alloc (.cells Lib.zeros24 103)) w.heap.size 0 dk).drewN k) = .ok (.string ⟨(Lib.decDigits u).toArray⟩) ((Sort.putRow (fun (b : UInt8) => Value.int .u8 (b.toNat : Int)) (w.alloc (.cells Lib.zeros24 103)) w.heap.size 0 dk).drewN k) := by
      have h := run_convert_bytes_back (P := Tryd.prog) ((Sort.putRow (fun (b : UInt8) => Value.int .u8 (b.toNat : Int)) (w.alloc (.cells Lib.zeros24 103)) w.heap.size 0 dk).drewN k) 59 9 5 ⟨w.heap.size, 0, none⟩ 24 (Lib.decDigits u) Tryd.underlying59 Tryd.underlying5 Tryd.underlying9 (fun j hj => by
        rw [Lib.row_is_numeral hF j hj, Lib.add_plain, World.cell?_drewN]
        exact Sort.cell?_putRow (fun (b : UInt8) => Value.int .u8 (b.toNat : Int)) _ w.heap.size 0 _ dk HH0.out (by rw [hF.size, Array.size_replicate]) j (by rw [hF.size]; rw [Lib.decDigits_length] at hj; exact hj))
      rw [Lib.decDigits_length] at h
      exact h
    go_wp2_with fail
    go_ret
    refine ⟨rfl, ?_⟩
    obtain ⟨os', _, e⟩ := Sort.putRow_grow_new (fun (b : UInt8) => Value.int .u8 (b.toNat : Int)) w #[.cells Lib.zeros24 103] w.heap.size 0 dk (Nat.le_refl _)
    rw [show w.alloc (.cells Lib.zeros24 103) = Sort.grow w #[.cells Lib.zeros24 103] from Sort.alloc_eq_grow _ _, e]
    exact Lib.below_grow _ _ (Nat.le_refl _) _ _

end Go.Proofs.YtgjhaanpkfheeaaDoor
