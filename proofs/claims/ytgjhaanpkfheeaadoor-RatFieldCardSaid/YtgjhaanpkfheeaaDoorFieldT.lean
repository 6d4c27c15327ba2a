/- RatField's last tests, from whatever stands in the other slots. -/
import Derived.Test.YtgjhaanpkfheeaaDoorFieldA
namespace Go.Proofs.YtgjhaanpkfheeaaDoor
set_option linter.unusedVariables false
set_option linter.unusedSimpArgs false
open Go.RowKit

/-- what is left of a sequence behind its first statements -/
def tailOf : Nat → Code → Code
  | n + 1, .seq _ b => tailOf n b
  | _, c => c

set_option maxRecDepth 20000 in
set_option maxHeartbeats 4000000 in
theorem field_tests (w W : World) (t : TypeId) (gX gY gU gV gZ gT : Nat) (X1 X2 Y1 Y2 U1 U2 V1 V2 Z1 Z2 T1 T2 : Int) (bX bY bU bV bZ bT : Bool)
    (u0 u1 u2 u3 u4 u5 u7 u8 u15 u16 u17 u18 u19 u20 u21 u22 u23 u24 u25 u26 u27 u28 u29 u30 u31 u32 u33 u34 u35 u36 u37 u38 u39 u40 u41 u42 u43 u44 u45 u46 u47 u48 u49 u50 u51 u52 u53 u54 u55 u56 u57 u58 u59 u60 u61 u62 u63 u64 u65 u66 u67 u68 u69 u70 u71 u72 u73 u74 u75 u76 u77 u78 u79 u80 u81 u82 u83 u84 u85 u86 u87 u88 u89 u90 u91 u92 u93 u94 u95 u96 u97 u98 u99 u100 u101 u102 u103 u104 u105 u106 u107 u108 u109 u110 u111 u112 u113 u114 u115 u116 u117 u118 u119 u120 u121 u122 u123 u124 u125 u126 u127 u128 u129 u130 u131 u132 u133 u134 u135 u136 u137 u138 u139 u140 u141 u142 u143 u144 u145 u146 u147 u148 u149 u150 u151 u152 u153 u154 u155 u156 u157 u158 u159 u160 u161 u162 u163 u164 u165 u166 u167 u168 u169 u170 u171 u172 u173 u174 u175 u176 u177 u178 u179 u180 u181 u182 u183 u184 u185 u186 u187 u188 u189 u190 u191 u192 u193 u194 u195 u196 u197 u198 u199 u200 u201 u202 u203 : Value)
    (hb : Below w.heap.size w W)
    (hX : Blk W gX t #[.int .i64 X1, .int .i64 X2]) (iX : ∀ w, Calls Tryd.prog 8 #[rv (X1, X2)] w fun e w' => e = .returned (.bool bX) ∧ Below w.heap.size w w')
    (hY : Blk W gY t #[.int .i64 Y1, .int .i64 Y2]) (iY : ∀ w, Calls Tryd.prog 8 #[rv (Y1, Y2)] w fun e w' => e = .returned (.bool bY) ∧ Below w.heap.size w w')
    (hU : Blk W gU t #[.int .i64 U1, .int .i64 U2]) (iU : ∀ w, Calls Tryd.prog 8 #[rv (U1, U2)] w fun e w' => e = .returned (.bool bU) ∧ Below w.heap.size w w')
    (hV : Blk W gV t #[.int .i64 V1, .int .i64 V2]) (iV : ∀ w, Calls Tryd.prog 8 #[rv (V1, V2)] w fun e w' => e = .returned (.bool bV) ∧ Below w.heap.size w w')
    (hZ : Blk W gZ t #[.int .i64 Z1, .int .i64 Z2]) (iZ : ∀ w, Calls Tryd.prog 8 #[rv (Z1, Z2)] w fun e w' => e = .returned (.bool bZ) ∧ Below w.heap.size w w')
    (hT : Blk W gT t #[.int .i64 T1, .int .i64 T2]) (iT : ∀ w, Calls Tryd.prog 8 #[rv (T1, T2)] w fun e w' => e = .returned (.bool bT) ∧ Below w.heap.size w w')
    (eX : bX = false ∨ (bX = true ∧ bY = false) ∨ (bX = true ∧ bY = true ∧ eqR X1 X2 Y1 Y2 = true))
    (eU : bU = false ∨ (bU = true ∧ bV = false) ∨ (bU = true ∧ bV = true ∧ eqR U1 U2 V1 V2 = true))
    (eZ : bZ = false ∨ (bZ = true ∧ bT = false) ∨ (bZ = true ∧ bT = true ∧ eqR Z1 Z2 T1 T2 = true)) :
    Code.wp Tryd.prog (tailOf 12 (Tryd.f3.body.getD .skip)) (bodyPost Tryd.prog Tryd.f3 fun e w' => e = .returned (.bool true) ∧ Below w.heap.size w w') { tmps := #[u0, u1, u2, u3, u4, u5, .bool false, u7, u8, .pointer (some ⟨gX, 0, none⟩), .pointer (some ⟨gY, 0, none⟩), .pointer (some ⟨gU, 0, none⟩), .pointer (some ⟨gV, 0, none⟩), .pointer (some ⟨gZ, 0, none⟩), .pointer (some ⟨gT, 0, none⟩), u15, u16, u17, u18, u19, u20, u21, u22, u23, u24, u25, u26, u27, u28, u29, u30, u31, u32, u33, u34, u35, u36, u37, u38, u39, u40, u41, u42, u43, u44, u45, u46, u47, u48, u49, u50, u51, u52, u53, u54, u55, u56, u57, u58, u59, u60, u61, u62, u63, u64, u65, u66, u67, u68, u69, u70, u71, u72, u73, u74, u75, u76, u77, u78, u79, u80, u81, u82, u83, u84, u85, u86, u87, u88, u89, u90, u91, u92, u93, u94, u95, u96, u97, u98, u99, u100, u101, u102, u103, u104, u105, u106, u107, u108, u109, u110, u111, u112, u113, u114, u115, u116, u117, u118, u119, u120, u121, u122, u123, u124, u125, u126, u127, u128, u129, u130, u131, u132, u133, u134, u135, u136, u137, u138, u139, u140, u141, u142, u143, u144, u145, u146, u147, u148, u149, u150, u151, u152, u153, u154, u155, u156, u157, u158, u159, u160, u161, u162, u163, u164, u165, u166, u167, u168, u169, u170, u171, u172, u173, u174, u175, u176, u177, u178, u179, u180, u181, u182, u183, u184, u185, u186, u187, u188, u189, u190, u191, u192, u193, u194, u195, u196, u197, u198, u199, u200, u201, u202, u203], defers := [] } W := by
  have IX := Lib.hid iX
  have IY := Lib.hid iY
  have IU := Lib.hid iU
  have IV := Lib.hid iV
  have IZ := Lib.hid iZ
  have IT := Lib.hid iT
  clear iX iY iU iV iZ iT
  have cX0 : W.cell? ⟨gX, 0, none⟩ = some (.int .i64 X1) := (hX).cell 0
  have fcX0 := (hX).frozen 0
  have cX1 : W.cell? ⟨gX, 1, none⟩ = some (.int .i64 X2) := (hX).cell 1
  have fcX1 := (hX).frozen 1
  have lcX := (hX).lt
  have cY0 : W.cell? ⟨gY, 0, none⟩ = some (.int .i64 Y1) := (hY).cell 0
  have fcY0 := (hY).frozen 0
  have cY1 : W.cell? ⟨gY, 1, none⟩ = some (.int .i64 Y2) := (hY).cell 1
  have fcY1 := (hY).frozen 1
  have lcY := (hY).lt
  have cU0 : W.cell? ⟨gU, 0, none⟩ = some (.int .i64 U1) := (hU).cell 0
  have fcU0 := (hU).frozen 0
  have cU1 : W.cell? ⟨gU, 1, none⟩ = some (.int .i64 U2) := (hU).cell 1
  have fcU1 := (hU).frozen 1
  have lcU := (hU).lt
  have cV0 : W.cell? ⟨gV, 0, none⟩ = some (.int .i64 V1) := (hV).cell 0
  have fcV0 := (hV).frozen 0
  have cV1 : W.cell? ⟨gV, 1, none⟩ = some (.int .i64 V2) := (hV).cell 1
  have fcV1 := (hV).frozen 1
  have lcV := (hV).lt
  have cZ0 : W.cell? ⟨gZ, 0, none⟩ = some (.int .i64 Z1) := (hZ).cell 0
  have fcZ0 := (hZ).frozen 0
  have cZ1 : W.cell? ⟨gZ, 1, none⟩ = some (.int .i64 Z2) := (hZ).cell 1
  have fcZ1 := (hZ).frozen 1
  have lcZ := (hZ).lt
  have cT0 : W.cell? ⟨gT, 0, none⟩ = some (.int .i64 T1) := (hT).cell 0
  have fcT0 := (hT).frozen 0
  have cT1 : W.cell? ⟨gT, 1, none⟩ = some (.int .i64 T2) := (hT).cell 1
  have fcT1 := (hT).frozen 1
  have lcT := (hT).lt
  simp only [tailOf, Tryd.f3, Option.getD_some]
  rcases eX with rfl | ⟨rfl, rfl⟩ | ⟨rfl, rfl, eX⟩
  · rcases eU with rfl | ⟨rfl, rfl⟩ | ⟨rfl, rfl, eU⟩
    · rcases eZ with rfl | ⟨rfl, rfl⟩ | ⟨rfl, rfl, eZ⟩
      · skip
        go_wp2_with fail
        ((with_reducible refine (IX.out _).mono ?_); rintro e w' ⟨rfl, hbw⟩)
        obtain ⟨m0, rfl⟩ := grow_mk hbw
        clear hbw
        go_wp2_with fail
        ((with_reducible refine (IU.out _).mono ?_); rintro e w' ⟨rfl, hbw⟩)
        obtain ⟨m1, rfl⟩ := grow_mk hbw
        clear hbw
        go_wp2_with fail
        ((with_reducible refine (IZ.out _).mono ?_); rintro e w' ⟨rfl, hbw⟩)
        obtain ⟨m2, rfl⟩ := grow_mk hbw
        clear hbw
        go_wp2_with fail
        go_ret
        exact ⟨rfl, below_grow hb _⟩
      · skip
        go_wp2_with fail
        ((with_reducible refine (IX.out _).mono ?_); rintro e w' ⟨rfl, hbw⟩)
        obtain ⟨m0, rfl⟩ := grow_mk hbw
        clear hbw
        go_wp2_with fail
        ((with_reducible refine (IU.out _).mono ?_); rintro e w' ⟨rfl, hbw⟩)
        obtain ⟨m1, rfl⟩ := grow_mk hbw
        clear hbw
        go_wp2_with fail
        ((with_reducible refine (IZ.out _).mono ?_); rintro e w' ⟨rfl, hbw⟩)
        obtain ⟨m2, rfl⟩ := grow_mk hbw
        clear hbw
        go_wp2_with fail
        ((with_reducible refine (IT.out _).mono ?_); rintro e w' ⟨rfl, hbw⟩)
        obtain ⟨m3, rfl⟩ := grow_mk hbw
        clear hbw
        go_wp2_with fail
        go_ret
        exact ⟨rfl, below_grow hb _⟩
      · skip
        go_wp2_with fail
        ((with_reducible refine (IX.out _).mono ?_); rintro e w' ⟨rfl, hbw⟩)
        obtain ⟨m0, rfl⟩ := grow_mk hbw
        clear hbw
        go_wp2_with fail
        ((with_reducible refine (IU.out _).mono ?_); rintro e w' ⟨rfl, hbw⟩)
        obtain ⟨m1, rfl⟩ := grow_mk hbw
        clear hbw
        go_wp2_with fail
        ((with_reducible refine (IZ.out _).mono ?_); rintro e w' ⟨rfl, hbw⟩)
        obtain ⟨m2, rfl⟩ := grow_mk hbw
        clear hbw
        go_wp2_with fail
        ((with_reducible refine (IT.out _).mono ?_); rintro e w' ⟨rfl, hbw⟩)
        obtain ⟨m3, rfl⟩ := grow_mk hbw
        clear hbw
        go_wp2_with fail
        go_ret
        exact ⟨rfl, below_grow hb _⟩
    · rcases eZ with rfl | ⟨rfl, rfl⟩ | ⟨rfl, rfl, eZ⟩
      · skip
        go_wp2_with fail
        ((with_reducible refine (IX.out _).mono ?_); rintro e w' ⟨rfl, hbw⟩)
        obtain ⟨m0, rfl⟩ := grow_mk hbw
        clear hbw
        go_wp2_with fail
        ((with_reducible refine (IU.out _).mono ?_); rintro e w' ⟨rfl, hbw⟩)
        obtain ⟨m1, rfl⟩ := grow_mk hbw
        clear hbw
        go_wp2_with fail
        ((with_reducible refine (IV.out _).mono ?_); rintro e w' ⟨rfl, hbw⟩)
        obtain ⟨m2, rfl⟩ := grow_mk hbw
        clear hbw
        go_wp2_with fail
        ((with_reducible refine (IZ.out _).mono ?_); rintro e w' ⟨rfl, hbw⟩)
        obtain ⟨m3, rfl⟩ := grow_mk hbw
        clear hbw
        go_wp2_with fail
        go_ret
        exact ⟨rfl, below_grow hb _⟩
      · skip
        go_wp2_with fail
        ((with_reducible refine (IX.out _).mono ?_); rintro e w' ⟨rfl, hbw⟩)
        obtain ⟨m0, rfl⟩ := grow_mk hbw
        clear hbw
        go_wp2_with fail
        ((with_reducible refine (IU.out _).mono ?_); rintro e w' ⟨rfl, hbw⟩)
        obtain ⟨m1, rfl⟩ := grow_mk hbw
        clear hbw
        go_wp2_with fail
        ((with_reducible refine (IV.out _).mono ?_); rintro e w' ⟨rfl, hbw⟩)
        obtain ⟨m2, rfl⟩ := grow_mk hbw
        clear hbw
        go_wp2_with fail
        ((with_reducible refine (IZ.out _).mono ?_); rintro e w' ⟨rfl, hbw⟩)
        obtain ⟨m3, rfl⟩ := grow_mk hbw
        clear hbw
        go_wp2_with fail
        ((with_reducible refine (IT.out _).mono ?_); rintro e w' ⟨rfl, hbw⟩)
        obtain ⟨m4, rfl⟩ := grow_mk hbw
        clear hbw
        go_wp2_with fail
        go_ret
        exact ⟨rfl, below_grow hb _⟩
      · skip
        go_wp2_with fail
        ((with_reducible refine (IX.out _).mono ?_); rintro e w' ⟨rfl, hbw⟩)
        obtain ⟨m0, rfl⟩ := grow_mk hbw
        clear hbw
        go_wp2_with fail
        ((with_reducible refine (IU.out _).mono ?_); rintro e w' ⟨rfl, hbw⟩)
        obtain ⟨m1, rfl⟩ := grow_mk hbw
        clear hbw
        go_wp2_with fail
        ((with_reducible refine (IV.out _).mono ?_); rintro e w' ⟨rfl, hbw⟩)
        obtain ⟨m2, rfl⟩ := grow_mk hbw
        clear hbw
        go_wp2_with fail
        ((with_reducible refine (IZ.out _).mono ?_); rintro e w' ⟨rfl, hbw⟩)
        obtain ⟨m3, rfl⟩ := grow_mk hbw
        clear hbw
        go_wp2_with fail
        ((with_reducible refine (IT.out _).mono ?_); rintro e w' ⟨rfl, hbw⟩)
        obtain ⟨m4, rfl⟩ := grow_mk hbw
        clear hbw
        go_wp2_with fail
        go_ret
        exact ⟨rfl, below_grow hb _⟩
    · rcases eZ with rfl | ⟨rfl, rfl⟩ | ⟨rfl, rfl, eZ⟩
      · skip
        go_wp2_with fail
        ((with_reducible refine (IX.out _).mono ?_); rintro e w' ⟨rfl, hbw⟩)
        obtain ⟨m0, rfl⟩ := grow_mk hbw
        clear hbw
        go_wp2_with fail
        ((with_reducible refine (IU.out _).mono ?_); rintro e w' ⟨rfl, hbw⟩)
        obtain ⟨m1, rfl⟩ := grow_mk hbw
        clear hbw
        go_wp2_with fail
        ((with_reducible refine (IV.out _).mono ?_); rintro e w' ⟨rfl, hbw⟩)
        obtain ⟨m2, rfl⟩ := grow_mk hbw
        clear hbw
        go_wp2_with fail
        ((with_reducible refine (IZ.out _).mono ?_); rintro e w' ⟨rfl, hbw⟩)
        obtain ⟨m3, rfl⟩ := grow_mk hbw
        clear hbw
        go_wp2_with fail
        go_ret
        exact ⟨rfl, below_grow hb _⟩
      · skip
        go_wp2_with fail
        ((with_reducible refine (IX.out _).mono ?_); rintro e w' ⟨rfl, hbw⟩)
        obtain ⟨m0, rfl⟩ := grow_mk hbw
        clear hbw
        go_wp2_with fail
        ((with_reducible refine (IU.out _).mono ?_); rintro e w' ⟨rfl, hbw⟩)
        obtain ⟨m1, rfl⟩ := grow_mk hbw
        clear hbw
        go_wp2_with fail
        ((with_reducible refine (IV.out _).mono ?_); rintro e w' ⟨rfl, hbw⟩)
        obtain ⟨m2, rfl⟩ := grow_mk hbw
        clear hbw
        go_wp2_with fail
        ((with_reducible refine (IZ.out _).mono ?_); rintro e w' ⟨rfl, hbw⟩)
        obtain ⟨m3, rfl⟩ := grow_mk hbw
        clear hbw
        go_wp2_with fail
        ((with_reducible refine (IT.out _).mono ?_); rintro e w' ⟨rfl, hbw⟩)
        obtain ⟨m4, rfl⟩ := grow_mk hbw
        clear hbw
        go_wp2_with fail
        go_ret
        exact ⟨rfl, below_grow hb _⟩
      · skip
        go_wp2_with fail
        ((with_reducible refine (IX.out _).mono ?_); rintro e w' ⟨rfl, hbw⟩)
        obtain ⟨m0, rfl⟩ := grow_mk hbw
        clear hbw
        go_wp2_with fail
        ((with_reducible refine (IU.out _).mono ?_); rintro e w' ⟨rfl, hbw⟩)
        obtain ⟨m1, rfl⟩ := grow_mk hbw
        clear hbw
        go_wp2_with fail
        ((with_reducible refine (IV.out _).mono ?_); rintro e w' ⟨rfl, hbw⟩)
        obtain ⟨m2, rfl⟩ := grow_mk hbw
        clear hbw
        go_wp2_with fail
        ((with_reducible refine (IZ.out _).mono ?_); rintro e w' ⟨rfl, hbw⟩)
        obtain ⟨m3, rfl⟩ := grow_mk hbw
        clear hbw
        go_wp2_with fail
        ((with_reducible refine (IT.out _).mono ?_); rintro e w' ⟨rfl, hbw⟩)
        obtain ⟨m4, rfl⟩ := grow_mk hbw
        clear hbw
        go_wp2_with fail
        go_ret
        exact ⟨rfl, below_grow hb _⟩
  · rcases eU with rfl | ⟨rfl, rfl⟩ | ⟨rfl, rfl, eU⟩
    · rcases eZ with rfl | ⟨rfl, rfl⟩ | ⟨rfl, rfl, eZ⟩
      · skip
        go_wp2_with fail
        ((with_reducible refine (IX.out _).mono ?_); rintro e w' ⟨rfl, hbw⟩)
        obtain ⟨m0, rfl⟩ := grow_mk hbw
        clear hbw
        go_wp2_with fail
        ((with_reducible refine (IY.out _).mono ?_); rintro e w' ⟨rfl, hbw⟩)
        obtain ⟨m1, rfl⟩ := grow_mk hbw
        clear hbw
        go_wp2_with fail
        ((with_reducible refine (IU.out _).mono ?_); rintro e w' ⟨rfl, hbw⟩)
        obtain ⟨m2, rfl⟩ := grow_mk hbw
        clear hbw
        go_wp2_with fail
        ((with_reducible refine (IZ.out _).mono ?_); rintro e w' ⟨rfl, hbw⟩)
        obtain ⟨m3, rfl⟩ := grow_mk hbw
        clear hbw
        go_wp2_with fail
        go_ret
        exact ⟨rfl, below_grow hb _⟩
      · skip
        go_wp2_with fail
        ((with_reducible refine (IX.out _).mono ?_); rintro e w' ⟨rfl, hbw⟩)
        obtain ⟨m0, rfl⟩ := grow_mk hbw
        clear hbw
        go_wp2_with fail
        ((with_reducible refine (IY.out _).mono ?_); rintro e w' ⟨rfl, hbw⟩)
        obtain ⟨m1, rfl⟩ := grow_mk hbw
        clear hbw
        go_wp2_with fail
        ((with_reducible refine (IU.out _).mono ?_); rintro e w' ⟨rfl, hbw⟩)
        obtain ⟨m2, rfl⟩ := grow_mk hbw
        clear hbw
        go_wp2_with fail
        ((with_reducible refine (IZ.out _).mono ?_); rintro e w' ⟨rfl, hbw⟩)
        obtain ⟨m3, rfl⟩ := grow_mk hbw
        clear hbw
        go_wp2_with fail
        ((with_reducible refine (IT.out _).mono ?_); rintro e w' ⟨rfl, hbw⟩)
        obtain ⟨m4, rfl⟩ := grow_mk hbw
        clear hbw
        go_wp2_with fail
        go_ret
        exact ⟨rfl, below_grow hb _⟩
      · skip
        go_wp2_with fail
        ((with_reducible refine (IX.out _).mono ?_); rintro e w' ⟨rfl, hbw⟩)
        obtain ⟨m0, rfl⟩ := grow_mk hbw
        clear hbw
        go_wp2_with fail
        ((with_reducible refine (IY.out _).mono ?_); rintro e w' ⟨rfl, hbw⟩)
        obtain ⟨m1, rfl⟩ := grow_mk hbw
        clear hbw
        go_wp2_with fail
        ((with_reducible refine (IU.out _).mono ?_); rintro e w' ⟨rfl, hbw⟩)
        obtain ⟨m2, rfl⟩ := grow_mk hbw
        clear hbw
        go_wp2_with fail
        ((with_reducible refine (IZ.out _).mono ?_); rintro e w' ⟨rfl, hbw⟩)
        obtain ⟨m3, rfl⟩ := grow_mk hbw
        clear hbw
        go_wp2_with fail
        ((with_reducible refine (IT.out _).mono ?_); rintro e w' ⟨rfl, hbw⟩)
        obtain ⟨m4, rfl⟩ := grow_mk hbw
        clear hbw
        go_wp2_with fail
        go_ret
        exact ⟨rfl, below_grow hb _⟩
    · rcases eZ with rfl | ⟨rfl, rfl⟩ | ⟨rfl, rfl, eZ⟩
      · skip
        go_wp2_with fail
        ((with_reducible refine (IX.out _).mono ?_); rintro e w' ⟨rfl, hbw⟩)
        obtain ⟨m0, rfl⟩ := grow_mk hbw
        clear hbw
        go_wp2_with fail
        ((with_reducible refine (IY.out _).mono ?_); rintro e w' ⟨rfl, hbw⟩)
        obtain ⟨m1, rfl⟩ := grow_mk hbw
        clear hbw
        go_wp2_with fail
        ((with_reducible refine (IU.out _).mono ?_); rintro e w' ⟨rfl, hbw⟩)
        obtain ⟨m2, rfl⟩ := grow_mk hbw
        clear hbw
        go_wp2_with fail
        ((with_reducible refine (IV.out _).mono ?_); rintro e w' ⟨rfl, hbw⟩)
        obtain ⟨m3, rfl⟩ := grow_mk hbw
        clear hbw
        go_wp2_with fail
        ((with_reducible refine (IZ.out _).mono ?_); rintro e w' ⟨rfl, hbw⟩)
        obtain ⟨m4, rfl⟩ := grow_mk hbw
        clear hbw
        go_wp2_with fail
        go_ret
        exact ⟨rfl, below_grow hb _⟩
      · skip
        go_wp2_with fail
        ((with_reducible refine (IX.out _).mono ?_); rintro e w' ⟨rfl, hbw⟩)
        obtain ⟨m0, rfl⟩ := grow_mk hbw
        clear hbw
        go_wp2_with fail
        ((with_reducible refine (IY.out _).mono ?_); rintro e w' ⟨rfl, hbw⟩)
        obtain ⟨m1, rfl⟩ := grow_mk hbw
        clear hbw
        go_wp2_with fail
        ((with_reducible refine (IU.out _).mono ?_); rintro e w' ⟨rfl, hbw⟩)
        obtain ⟨m2, rfl⟩ := grow_mk hbw
        clear hbw
        go_wp2_with fail
        ((with_reducible refine (IV.out _).mono ?_); rintro e w' ⟨rfl, hbw⟩)
        obtain ⟨m3, rfl⟩ := grow_mk hbw
        clear hbw
        go_wp2_with fail
        ((with_reducible refine (IZ.out _).mono ?_); rintro e w' ⟨rfl, hbw⟩)
        obtain ⟨m4, rfl⟩ := grow_mk hbw
        clear hbw
        go_wp2_with fail
        ((with_reducible refine (IT.out _).mono ?_); rintro e w' ⟨rfl, hbw⟩)
        obtain ⟨m5, rfl⟩ := grow_mk hbw
        clear hbw
        go_wp2_with fail
        go_ret
        exact ⟨rfl, below_grow hb _⟩
      · skip
        go_wp2_with fail
        ((with_reducible refine (IX.out _).mono ?_); rintro e w' ⟨rfl, hbw⟩)
        obtain ⟨m0, rfl⟩ := grow_mk hbw
        clear hbw
        go_wp2_with fail
        ((with_reducible refine (IY.out _).mono ?_); rintro e w' ⟨rfl, hbw⟩)
        obtain ⟨m1, rfl⟩ := grow_mk hbw
        clear hbw
        go_wp2_with fail
        ((with_reducible refine (IU.out _).mono ?_); rintro e w' ⟨rfl, hbw⟩)
        obtain ⟨m2, rfl⟩ := grow_mk hbw
        clear hbw
        go_wp2_with fail
        ((with_reducible refine (IV.out _).mono ?_); rintro e w' ⟨rfl, hbw⟩)
        obtain ⟨m3, rfl⟩ := grow_mk hbw
        clear hbw
        go_wp2_with fail
        ((with_reducible refine (IZ.out _).mono ?_); rintro e w' ⟨rfl, hbw⟩)
        obtain ⟨m4, rfl⟩ := grow_mk hbw
        clear hbw
        go_wp2_with fail
        ((with_reducible refine (IT.out _).mono ?_); rintro e w' ⟨rfl, hbw⟩)
        obtain ⟨m5, rfl⟩ := grow_mk hbw
        clear hbw
        go_wp2_with fail
        go_ret
        exact ⟨rfl, below_grow hb _⟩
    · rcases eZ with rfl | ⟨rfl, rfl⟩ | ⟨rfl, rfl, eZ⟩
      · skip
        go_wp2_with fail
        ((with_reducible refine (IX.out _).mono ?_); rintro e w' ⟨rfl, hbw⟩)
        obtain ⟨m0, rfl⟩ := grow_mk hbw
        clear hbw
        go_wp2_with fail
        ((with_reducible refine (IY.out _).mono ?_); rintro e w' ⟨rfl, hbw⟩)
        obtain ⟨m1, rfl⟩ := grow_mk hbw
        clear hbw
        go_wp2_with fail
        ((with_reducible refine (IU.out _).mono ?_); rintro e w' ⟨rfl, hbw⟩)
        obtain ⟨m2, rfl⟩ := grow_mk hbw
        clear hbw
        go_wp2_with fail
        ((with_reducible refine (IV.out _).mono ?_); rintro e w' ⟨rfl, hbw⟩)
        obtain ⟨m3, rfl⟩ := grow_mk hbw
        clear hbw
        go_wp2_with fail
        ((with_reducible refine (IZ.out _).mono ?_); rintro e w' ⟨rfl, hbw⟩)
        obtain ⟨m4, rfl⟩ := grow_mk hbw
        clear hbw
        go_wp2_with fail
        go_ret
        exact ⟨rfl, below_grow hb _⟩
      · skip
        go_wp2_with fail
        ((with_reducible refine (IX.out _).mono ?_); rintro e w' ⟨rfl, hbw⟩)
        obtain ⟨m0, rfl⟩ := grow_mk hbw
        clear hbw
        go_wp2_with fail
        ((with_reducible refine (IY.out _).mono ?_); rintro e w' ⟨rfl, hbw⟩)
        obtain ⟨m1, rfl⟩ := grow_mk hbw
        clear hbw
        go_wp2_with fail
        ((with_reducible refine (IU.out _).mono ?_); rintro e w' ⟨rfl, hbw⟩)
        obtain ⟨m2, rfl⟩ := grow_mk hbw
        clear hbw
        go_wp2_with fail
        ((with_reducible refine (IV.out _).mono ?_); rintro e w' ⟨rfl, hbw⟩)
        obtain ⟨m3, rfl⟩ := grow_mk hbw
        clear hbw
        go_wp2_with fail
        ((with_reducible refine (IZ.out _).mono ?_); rintro e w' ⟨rfl, hbw⟩)
        obtain ⟨m4, rfl⟩ := grow_mk hbw
        clear hbw
        go_wp2_with fail
        ((with_reducible refine (IT.out _).mono ?_); rintro e w' ⟨rfl, hbw⟩)
        obtain ⟨m5, rfl⟩ := grow_mk hbw
        clear hbw
        go_wp2_with fail
        go_ret
        exact ⟨rfl, below_grow hb _⟩
      · skip
        go_wp2_with fail
        ((with_reducible refine (IX.out _).mono ?_); rintro e w' ⟨rfl, hbw⟩)
        obtain ⟨m0, rfl⟩ := grow_mk hbw
        clear hbw
        go_wp2_with fail
        ((with_reducible refine (IY.out _).mono ?_); rintro e w' ⟨rfl, hbw⟩)
        obtain ⟨m1, rfl⟩ := grow_mk hbw
        clear hbw
        go_wp2_with fail
        ((with_reducible refine (IU.out _).mono ?_); rintro e w' ⟨rfl, hbw⟩)
        obtain ⟨m2, rfl⟩ := grow_mk hbw
        clear hbw
        go_wp2_with fail
        ((with_reducible refine (IV.out _).mono ?_); rintro e w' ⟨rfl, hbw⟩)
        obtain ⟨m3, rfl⟩ := grow_mk hbw
        clear hbw
        go_wp2_with fail
        ((with_reducible refine (IZ.out _).mono ?_); rintro e w' ⟨rfl, hbw⟩)
        obtain ⟨m4, rfl⟩ := grow_mk hbw
        clear hbw
        go_wp2_with fail
        ((with_reducible refine (IT.out _).mono ?_); rintro e w' ⟨rfl, hbw⟩)
        obtain ⟨m5, rfl⟩ := grow_mk hbw
        clear hbw
        go_wp2_with fail
        go_ret
        exact ⟨rfl, below_grow hb _⟩
  · rcases eU with rfl | ⟨rfl, rfl⟩ | ⟨rfl, rfl, eU⟩
    · rcases eZ with rfl | ⟨rfl, rfl⟩ | ⟨rfl, rfl, eZ⟩
      · skip
        go_wp2_with fail
        ((with_reducible refine (IX.out _).mono ?_); rintro e w' ⟨rfl, hbw⟩)
        obtain ⟨m0, rfl⟩ := grow_mk hbw
        clear hbw
        go_wp2_with fail
        ((with_reducible refine (IY.out _).mono ?_); rintro e w' ⟨rfl, hbw⟩)
        obtain ⟨m1, rfl⟩ := grow_mk hbw
        clear hbw
        go_wp2_with fail
        ((with_reducible refine (IU.out _).mono ?_); rintro e w' ⟨rfl, hbw⟩)
        obtain ⟨m2, rfl⟩ := grow_mk hbw
        clear hbw
        go_wp2_with fail
        ((with_reducible refine (IZ.out _).mono ?_); rintro e w' ⟨rfl, hbw⟩)
        obtain ⟨m3, rfl⟩ := grow_mk hbw
        clear hbw
        go_wp2_with fail
        go_ret
        exact ⟨rfl, below_grow hb _⟩
      · skip
        go_wp2_with fail
        ((with_reducible refine (IX.out _).mono ?_); rintro e w' ⟨rfl, hbw⟩)
        obtain ⟨m0, rfl⟩ := grow_mk hbw
        clear hbw
        go_wp2_with fail
        ((with_reducible refine (IY.out _).mono ?_); rintro e w' ⟨rfl, hbw⟩)
        obtain ⟨m1, rfl⟩ := grow_mk hbw
        clear hbw
        go_wp2_with fail
        ((with_reducible refine (IU.out _).mono ?_); rintro e w' ⟨rfl, hbw⟩)
        obtain ⟨m2, rfl⟩ := grow_mk hbw
        clear hbw
        go_wp2_with fail
        ((with_reducible refine (IZ.out _).mono ?_); rintro e w' ⟨rfl, hbw⟩)
        obtain ⟨m3, rfl⟩ := grow_mk hbw
        clear hbw
        go_wp2_with fail
        ((with_reducible refine (IT.out _).mono ?_); rintro e w' ⟨rfl, hbw⟩)
        obtain ⟨m4, rfl⟩ := grow_mk hbw
        clear hbw
        go_wp2_with fail
        go_ret
        exact ⟨rfl, below_grow hb _⟩
      · skip
        go_wp2_with fail
        ((with_reducible refine (IX.out _).mono ?_); rintro e w' ⟨rfl, hbw⟩)
        obtain ⟨m0, rfl⟩ := grow_mk hbw
        clear hbw
        go_wp2_with fail
        ((with_reducible refine (IY.out _).mono ?_); rintro e w' ⟨rfl, hbw⟩)
        obtain ⟨m1, rfl⟩ := grow_mk hbw
        clear hbw
        go_wp2_with fail
        ((with_reducible refine (IU.out _).mono ?_); rintro e w' ⟨rfl, hbw⟩)
        obtain ⟨m2, rfl⟩ := grow_mk hbw
        clear hbw
        go_wp2_with fail
        ((with_reducible refine (IZ.out _).mono ?_); rintro e w' ⟨rfl, hbw⟩)
        obtain ⟨m3, rfl⟩ := grow_mk hbw
        clear hbw
        go_wp2_with fail
        ((with_reducible refine (IT.out _).mono ?_); rintro e w' ⟨rfl, hbw⟩)
        obtain ⟨m4, rfl⟩ := grow_mk hbw
        clear hbw
        go_wp2_with fail
        go_ret
        exact ⟨rfl, below_grow hb _⟩
    · rcases eZ with rfl | ⟨rfl, rfl⟩ | ⟨rfl, rfl, eZ⟩
      · skip
        go_wp2_with fail
        ((with_reducible refine (IX.out _).mono ?_); rintro e w' ⟨rfl, hbw⟩)
        obtain ⟨m0, rfl⟩ := grow_mk hbw
        clear hbw
        go_wp2_with fail
        ((with_reducible refine (IY.out _).mono ?_); rintro e w' ⟨rfl, hbw⟩)
        obtain ⟨m1, rfl⟩ := grow_mk hbw
        clear hbw
        go_wp2_with fail
        ((with_reducible refine (IU.out _).mono ?_); rintro e w' ⟨rfl, hbw⟩)
        obtain ⟨m2, rfl⟩ := grow_mk hbw
        clear hbw
        go_wp2_with fail
        ((with_reducible refine (IV.out _).mono ?_); rintro e w' ⟨rfl, hbw⟩)
        obtain ⟨m3, rfl⟩ := grow_mk hbw
        clear hbw
        go_wp2_with fail
        ((with_reducible refine (IZ.out _).mono ?_); rintro e w' ⟨rfl, hbw⟩)
        obtain ⟨m4, rfl⟩ := grow_mk hbw
        clear hbw
        go_wp2_with fail
        go_ret
        exact ⟨rfl, below_grow hb _⟩
      · skip
        go_wp2_with fail
        ((with_reducible refine (IX.out _).mono ?_); rintro e w' ⟨rfl, hbw⟩)
        obtain ⟨m0, rfl⟩ := grow_mk hbw
        clear hbw
        go_wp2_with fail
        ((with_reducible refine (IY.out _).mono ?_); rintro e w' ⟨rfl, hbw⟩)
        obtain ⟨m1, rfl⟩ := grow_mk hbw
        clear hbw
        go_wp2_with fail
        ((with_reducible refine (IU.out _).mono ?_); rintro e w' ⟨rfl, hbw⟩)
        obtain ⟨m2, rfl⟩ := grow_mk hbw
        clear hbw
        go_wp2_with fail
        ((with_reducible refine (IV.out _).mono ?_); rintro e w' ⟨rfl, hbw⟩)
        obtain ⟨m3, rfl⟩ := grow_mk hbw
        clear hbw
        go_wp2_with fail
        ((with_reducible refine (IZ.out _).mono ?_); rintro e w' ⟨rfl, hbw⟩)
        obtain ⟨m4, rfl⟩ := grow_mk hbw
        clear hbw
        go_wp2_with fail
        ((with_reducible refine (IT.out _).mono ?_); rintro e w' ⟨rfl, hbw⟩)
        obtain ⟨m5, rfl⟩ := grow_mk hbw
        clear hbw
        go_wp2_with fail
        go_ret
        exact ⟨rfl, below_grow hb _⟩
      · skip
        go_wp2_with fail
        ((with_reducible refine (IX.out _).mono ?_); rintro e w' ⟨rfl, hbw⟩)
        obtain ⟨m0, rfl⟩ := grow_mk hbw
        clear hbw
        go_wp2_with fail
        ((with_reducible refine (IY.out _).mono ?_); rintro e w' ⟨rfl, hbw⟩)
        obtain ⟨m1, rfl⟩ := grow_mk hbw
        clear hbw
        go_wp2_with fail
        ((with_reducible refine (IU.out _).mono ?_); rintro e w' ⟨rfl, hbw⟩)
        obtain ⟨m2, rfl⟩ := grow_mk hbw
        clear hbw
        go_wp2_with fail
        ((with_reducible refine (IV.out _).mono ?_); rintro e w' ⟨rfl, hbw⟩)
        obtain ⟨m3, rfl⟩ := grow_mk hbw
        clear hbw
        go_wp2_with fail
        ((with_reducible refine (IZ.out _).mono ?_); rintro e w' ⟨rfl, hbw⟩)
        obtain ⟨m4, rfl⟩ := grow_mk hbw
        clear hbw
        go_wp2_with fail
        ((with_reducible refine (IT.out _).mono ?_); rintro e w' ⟨rfl, hbw⟩)
        obtain ⟨m5, rfl⟩ := grow_mk hbw
        clear hbw
        go_wp2_with fail
        go_ret
        exact ⟨rfl, below_grow hb _⟩
    · rcases eZ with rfl | ⟨rfl, rfl⟩ | ⟨rfl, rfl, eZ⟩
      · skip
        go_wp2_with fail
        ((with_reducible refine (IX.out _).mono ?_); rintro e w' ⟨rfl, hbw⟩)
        obtain ⟨m0, rfl⟩ := grow_mk hbw
        clear hbw
        go_wp2_with fail
        ((with_reducible refine (IY.out _).mono ?_); rintro e w' ⟨rfl, hbw⟩)
        obtain ⟨m1, rfl⟩ := grow_mk hbw
        clear hbw
        go_wp2_with fail
        ((with_reducible refine (IU.out _).mono ?_); rintro e w' ⟨rfl, hbw⟩)
        obtain ⟨m2, rfl⟩ := grow_mk hbw
        clear hbw
        go_wp2_with fail
        ((with_reducible refine (IV.out _).mono ?_); rintro e w' ⟨rfl, hbw⟩)
        obtain ⟨m3, rfl⟩ := grow_mk hbw
        clear hbw
        go_wp2_with fail
        ((with_reducible refine (IZ.out _).mono ?_); rintro e w' ⟨rfl, hbw⟩)
        obtain ⟨m4, rfl⟩ := grow_mk hbw
        clear hbw
        go_wp2_with fail
        go_ret
        exact ⟨rfl, below_grow hb _⟩
      · skip
        go_wp2_with fail
        ((with_reducible refine (IX.out _).mono ?_); rintro e w' ⟨rfl, hbw⟩)
        obtain ⟨m0, rfl⟩ := grow_mk hbw
        clear hbw
        go_wp2_with fail
        ((with_reducible refine (IY.out _).mono ?_); rintro e w' ⟨rfl, hbw⟩)
        obtain ⟨m1, rfl⟩ := grow_mk hbw
        clear hbw
        go_wp2_with fail
        ((with_reducible refine (IU.out _).mono ?_); rintro e w' ⟨rfl, hbw⟩)
        obtain ⟨m2, rfl⟩ := grow_mk hbw
        clear hbw
        go_wp2_with fail
        ((with_reducible refine (IV.out _).mono ?_); rintro e w' ⟨rfl, hbw⟩)
        obtain ⟨m3, rfl⟩ := grow_mk hbw
        clear hbw
        go_wp2_with fail
        ((with_reducible refine (IZ.out _).mono ?_); rintro e w' ⟨rfl, hbw⟩)
        obtain ⟨m4, rfl⟩ := grow_mk hbw
        clear hbw
        go_wp2_with fail
        ((with_reducible refine (IT.out _).mono ?_); rintro e w' ⟨rfl, hbw⟩)
        obtain ⟨m5, rfl⟩ := grow_mk hbw
        clear hbw
        go_wp2_with fail
        go_ret
        exact ⟨rfl, below_grow hb _⟩
      · skip
        go_wp2_with fail
        ((with_reducible refine (IX.out _).mono ?_); rintro e w' ⟨rfl, hbw⟩)
        obtain ⟨m0, rfl⟩ := grow_mk hbw
        clear hbw
        go_wp2_with fail
        ((with_reducible refine (IY.out _).mono ?_); rintro e w' ⟨rfl, hbw⟩)
        obtain ⟨m1, rfl⟩ := grow_mk hbw
        clear hbw
        go_wp2_with fail
        ((with_reducible refine (IU.out _).mono ?_); rintro e w' ⟨rfl, hbw⟩)
        obtain ⟨m2, rfl⟩ := grow_mk hbw
        clear hbw
        go_wp2_with fail
        ((with_reducible refine (IV.out _).mono ?_); rintro e w' ⟨rfl, hbw⟩)
        obtain ⟨m3, rfl⟩ := grow_mk hbw
        clear hbw
        go_wp2_with fail
        ((with_reducible refine (IZ.out _).mono ?_); rintro e w' ⟨rfl, hbw⟩)
        obtain ⟨m4, rfl⟩ := grow_mk hbw
        clear hbw
        go_wp2_with fail
        ((with_reducible refine (IT.out _).mono ?_); rintro e w' ⟨rfl, hbw⟩)
        obtain ⟨m5, rfl⟩ := grow_mk hbw
        clear hbw
        go_wp2_with fail
        go_ret
        exact ⟨rfl, below_grow hb _⟩

end Go.Proofs.YtgjhaanpkfheeaaDoor
