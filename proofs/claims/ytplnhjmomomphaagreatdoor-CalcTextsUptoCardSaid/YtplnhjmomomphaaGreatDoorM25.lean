/- Of my texts: TextF, PlainU. -/
import Derived.Test.YtplnhjmomomphaaGreatDoorM05
import Derived.Test.YtplnhjmomomphaaGreatDoorM12
import Derived.Shelf.Strconv.Itoa4
import Derived.Lib.LaidTab
import Derived.Lib.AppendIntMem
import Derived.WalkSmall
import Derived.Shelf.Strconv.Itoa3
namespace Go.Proofs.YtplnhjmomomphaaGreatDoor
set_option linter.unusedVariables false
set_option linter.unusedSimpArgs false
open Go.RowKit Go.Shelf
/-- the table of powers of ten -/
def Pow10 (w : World) : Prop := Lib.TabIs Tryz.prog w "internal/strconv.uint64pow10" .u64 Lib.pow10Tab
theorem gPow10 : ∃ g, Tryz.prog.globalNamed "internal/strconv.uint64pow10" = some g := Option.isSome_iff_exists.1 (show (Tryz.prog.globalNamed "internal/strconv.uint64pow10").isSome = true by kernel_rfl)
theorem Pow10.below {w w' : World} (h : Pow10 w) (hb : Below w.heap.size w w') : Pow10 w' := by
 obtain ⟨g, hg⟩ := gPow10
 refine var?_below hb hg ?_ h
 obtain ⟨cs, h2⟩ : ∃ cs, w.var? Tryz.prog "internal/strconv.uint64pow10" = some cs := ⟨_, h⟩
 unfold World.var? at h2
 rw [hg] at h2
 simp only [Option.bind_some] at h2
 rcases Nat.lt_or_ge g w.heap.size with h3 | h3
 · exact h3
 · rw [Array.getElem?_eq_none h3] at h2
   cases h2
end Go.Proofs.YtplnhjmomomphaaGreatDoor

namespace Go.Proofs.YtplnhjmomomphaaGreatDoor
set_option linter.unusedVariables false
set_option linter.unusedSimpArgs false
open Go.RowKit Go.Shelf
set_option maxRecDepth 100000 in
def Tryz.laysSM_ren : Ren := ⟨fun x => if x = 283 then 113 else x, fun x => if x = 3 then 3 else if x = 9 then 9 else if x = 4 then 4 else x, fun x => x⟩
set_option maxRecDepth 100000 in
theorem Tryz.laysSM : Lays.n283 Tryz.prog Tryz.laysSM_ren := {
 mixed := (by kernel_rfl),
 f283 := Tryz.func113.trans (congrArg some (by kernel_rfl)),
 t3 := Tryz.underlying3,
 a3 := Tryz.isAgg3,
 z3 := Tryz.sizeOf3,
 v3 := Tryz.zeroValue3,
 t4 := Tryz.underlying4,
 a4 := Tryz.isAgg4,
 z4 := Tryz.sizeOf4,
 v4 := Tryz.zeroValue4,
 t9 := Tryz.underlying9,
 a9 := Tryz.isAgg9,
 z9 := Tryz.sizeOf9,
 v9 := Tryz.zeroValue9 }
set_option maxRecDepth 100000 in
def Tryz.laysND_ren : Ren := ⟨fun x => if x = 284 then 114 else if x = 129 then 129 else if x = 317 then 128 else if x = 318 then 130 else x, fun x => if x = 53 then 93 else if x = 3 then 3 else if x = 212 then 162 else if x = 0 then 0 else if x = 4 then 4 else if x = 46 then 110 else if x = 5 then 5 else if x = 9 then 9 else x, fun x => if x = 17 then 2 else x⟩
set_option maxRecDepth 100000 in
theorem Tryz.laysND : LaysM.n284 Tryz.prog Tryz.laysND_ren := {
 mixed := (by kernel_rfl),
 f129 := Tryz.func129.trans (congrArg some (by kernel_rfl)),
 f284 := Tryz.func114.trans (congrArg some (by kernel_rfl)),
 f317 := Tryz.func128.trans (congrArg some (by kernel_rfl)),
 f318 := Tryz.func130.trans (congrArg some (by kernel_rfl)),
 t0 := Tryz.underlying0,
 a0 := Tryz.isAgg0,
 z0 := Tryz.sizeOf0,
 v0 := Tryz.zeroValue0,
 t3 := Tryz.underlying3,
 a3 := Tryz.isAgg3,
 z3 := Tryz.sizeOf3,
 v3 := Tryz.zeroValue3,
 t4 := Tryz.underlying4,
 a4 := Tryz.isAgg4,
 z4 := Tryz.sizeOf4,
 v4 := Tryz.zeroValue4,
 t5 := Tryz.underlying5,
 a5 := Tryz.isAgg5,
 z5 := Tryz.sizeOf5,
 v5 := Tryz.zeroValue5,
 t9 := Tryz.underlying9,
 a9 := Tryz.isAgg9,
 z9 := Tryz.sizeOf9,
 v9 := Tryz.zeroValue9,
 t46 := Tryz.underlying110,
 a46 := Tryz.isAgg110,
 z46 := Tryz.sizeOf110,
 v46 := Tryz.zeroValue110,
 t53 := Tryz.underlying93,
 a53 := Tryz.isAgg93,
 z53 := Tryz.sizeOf93,
 v53 := Tryz.zeroValue93,
 t212 := Tryz.underlying162,
 a212 := Tryz.isAgg162,
 z212 := Tryz.sizeOf162,
 v212 := Tryz.zeroValue162,
 g17 := (by kernel_rfl),
 i0 := (by kernel_rfl),
 i3 := (by kernel_rfl),
 i4 := (by kernel_rfl),
 i5 := (by kernel_rfl),
 i9 := (by kernel_rfl),
 i46 := (by kernel_rfl),
 i53 := (by kernel_rfl),
 i212 := (by kernel_rfl),
 m17 := (by kernel_rfl) }
set_option maxRecDepth 100000 in
def Tryz.laysFB_ren : Ren := ⟨fun x => if x = 285 then 115 else x, fun x => if x = 37 then 48 else if x = 53 then 93 else if x = 3 then 3 else if x = 4 then 4 else if x = 51 then 134 else if x = 9 then 9 else if x = 5 then 5 else if x = 0 then 0 else x, fun x => x⟩
set_option maxRecDepth 100000 in
theorem Tryz.laysFB : Lays.n285 Tryz.prog Tryz.laysFB_ren := {
 mixed := (by kernel_rfl),
 f285 := Tryz.func115.trans (congrArg some (by kernel_rfl)),
 t0 := Tryz.underlying0,
 a0 := Tryz.isAgg0,
 z0 := Tryz.sizeOf0,
 v0 := Tryz.zeroValue0,
 t3 := Tryz.underlying3,
 a3 := Tryz.isAgg3,
 z3 := Tryz.sizeOf3,
 v3 := Tryz.zeroValue3,
 t4 := Tryz.underlying4,
 a4 := Tryz.isAgg4,
 z4 := Tryz.sizeOf4,
 v4 := Tryz.zeroValue4,
 t5 := Tryz.underlying5,
 a5 := Tryz.isAgg5,
 z5 := Tryz.sizeOf5,
 v5 := Tryz.zeroValue5,
 t9 := Tryz.underlying9,
 a9 := Tryz.isAgg9,
 z9 := Tryz.sizeOf9,
 v9 := Tryz.zeroValue9,
 t37 := Tryz.underlying48,
 a37 := Tryz.isAgg48,
 z37 := Tryz.sizeOf48,
 v37 := Tryz.zeroValue48,
 t51 := Tryz.underlying134,
 a51 := Tryz.isAgg134,
 z51 := Tryz.sizeOf134,
 v51 := Tryz.zeroValue134,
 t53 := Tryz.underlying93,
 a53 := Tryz.isAgg93,
 z53 := Tryz.sizeOf93,
 v53 := Tryz.zeroValue93 }
set_option maxRecDepth 20000 in
set_option maxHeartbeats 8000000 in
theorem fmtU_any (u : Nat) (w : World) (hu64 : u < 18446744073709551616) (htab : Pow10 w) :
 Calls Tryz.prog 94 #[.int .u64 u, .int .i64 10] w fun e w' => e = .returned (.string ⟨(Lib.decDigits u).toArray⟩) ∧ Below w.heap.size w w' := by
 have g10 : ((10 : Int) == 10) = true := rfl
 by_cases hi : u < 100
 · have gi : decide ((u : Int) < 100) = true := by simp; omega
   have hs : ∀ W, Calls Tryz.prog 113 #[.int .i64 u] W fun e w' => e = .returned (.string ⟨(Lib.decDigits u).toArray⟩) ∧ w' = W := fun W => Any.internal_strconv_small Tryz.laysSM u hi W
   have HS := Lib.hid hs
   clear hs
   go_enter Tryz.func94, Tryz.ntmps94
   go_wp2_with (first | (go_at_call 113; refine (HS.out _).mono ?_; rintro e w' ⟨rfl, rfl⟩))
   go_ret
   exact ⟨rfl, Below.refl _ _⟩
 · have gi : decide ((u : Int) < 100) = false := by simp; omega
   have hu1 : 1 ≤ u := by omega
   have hnd20 : Lib.nDigits u ≤ 20 := Lib.nDigits_le20 u hu64
   have hH0 : Sort.Holds (fun (b : UInt8) => Value.int .u8 (b.toNat : Int)) (w.alloc (.cells Lib.zeros24 150)) w.heap.size 0 (Array.replicate (Lib.nDigits u) (0 : UInt8)) := fun j hj => by
    have hj' : j < Lib.nDigits u := by simpa using hj
    refine ⟨?_, World.frozen?_alloc_new _ _ _ _⟩
    rw [World.cell?_alloc_new, Lib.zeros24_at _ (by omega), getElem!_pos _ j hj]
    simp
   have hfmt : Calls Tryz.prog 115 _ _ _ := Any.internal_strconv_formatBase10 Tryz.laysFB w.heap.size 0 24 u (Array.replicate (Lib.nDigits u) 0) (w.alloc (.cells Lib.zeros24 150)) hH0 (by rw [Array.size_replicate]; exact Lib.lt_pow_nDigits u) hu64 (by rw [Array.size_replicate]; omega)
   rw [Array.size_replicate] at hfmt
   have hnum : ∀ W, Pow10 W → Calls Tryz.prog 114 #[.int .u64 u] W fun e w' => e = .returned (.int .i64 (Lib.nDigits u)) ∧ w' = W := fun W h => Any.internal_strconv_numDigits Tryz.laysND u hu1 hu64 W h
   have HT := Lib.hid (Lib.tabIs_alloc htab (.cells Lib.zeros24 150) : Pow10 (w.alloc (.cells Lib.zeros24 150)))
   have hal : Tryz.prog.arrayLen 150 = 24 := by kernel_rfl
   have hel : Tryz.prog.elem 150 = 5 := by kernel_rfl
   have hsl : ∀ W, (Instr.sliceAt 150 (.pointer (some ⟨w.heap.size, 0, none⟩)) none (some (.int .i64 (Lib.nDigits u : Int))) none).run Tryz.prog W = .ok (.slice (some ⟨w.heap.size, 0, none⟩) (Lib.nDigits u) 24) W := fun W => by
    rw [run_sliceAt_array_h W 150 ⟨w.heap.size, 0, none⟩ (by rw [hal, hel]; exact Tryz.underlying150) .i64 (Lib.nDigits u : Int) (by omega) (by rw [hal]; omega), hal, hel, Tryz.sizeOf5]
    go_simp
   have HH0 := Lib.hid hH0
   have HFMT := Lib.hid hfmt
   have HN := Lib.hid hnum
   clear hH0 hal hel htab hfmt hnum
   go_enter Tryz.func94, Tryz.ntmps94
   go_wp2_with (first
    | (go_at_call 114; refine (HN.out _ HT.out).mono ?_; rintro e w' ⟨rfl, rfl⟩))
   go_at_call 115
   refine HFMT.out.mono ?_
   rintro e w' ⟨rfl, k, v', dk, rfl, hF⟩
   have hcv : (convert 48 9 (.slice (some ⟨w.heap.size, 0, none⟩) (Lib.nDigits u) 24)).run Tryz.prog ((Sort.putRow (fun (b : UInt8) => Value.int .u8 (b.toNat : Int)) (w.alloc (.cells Lib.zeros24 150)) w.heap.size 0 dk).drewN k) = .ok (.string ⟨(Lib.decDigits u).toArray⟩) ((Sort.putRow (fun (b : UInt8) => Value.int .u8 (b.toNat : Int)) (w.alloc (.cells Lib.zeros24 150)) w.heap.size 0 dk).drewN k) := by
    have h := run_convert_bytes_back (P := Tryz.prog) ((Sort.putRow (fun (b : UInt8) => Value.int .u8 (b.toNat : Int)) (w.alloc (.cells Lib.zeros24 150)) w.heap.size 0 dk).drewN k) 48 9 5 ⟨w.heap.size, 0, none⟩ 24 (Lib.decDigits u) Tryz.underlying48 Tryz.underlying5 Tryz.underlying9 (fun j hj => by
     rw [Lib.row_is_numeral hF j hj, Lib.add_plain, World.cell?_drewN]
     exact Sort.cell?_putRow (fun (b : UInt8) => Value.int .u8 (b.toNat : Int)) _ w.heap.size 0 _ dk HH0.out (by rw [hF.size, Array.size_replicate]) j (by rw [hF.size]; rw [Lib.decDigits_length] at hj; exact hj))
    rw [Lib.decDigits_length] at h
    exact h
   go_wp2_with fail
   go_ret
   refine ⟨rfl, ?_⟩
   obtain ⟨os', _, e⟩ := Sort.putRow_grow_new (fun (b : UInt8) => Value.int .u8 (b.toNat : Int)) w #[.cells Lib.zeros24 150] w.heap.size 0 dk (Nat.le_refl _)
   rw [show w.alloc (.cells Lib.zeros24 150) = Sort.grow w #[.cells Lib.zeros24 150] from Sort.alloc_eq_grow _ _, e]
   exact Lib.below_grow _ _ (Nat.le_refl _) _ _
end Go.Proofs.YtplnhjmomomphaaGreatDoor
