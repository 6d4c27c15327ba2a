/- RatField's last sums and products, from whatever stands in the other slots. -/
import Derived.Test.YtgjhaanpkfheeaaDoorFieldT
import Derived.Deep.CutBlock
import Derived.Deep.DeepCutAuto
namespace Go.Proofs.YtgjhaanpkfheeaaDoor
set_option linter.unusedVariables false
set_option linter.unusedSimpArgs false
open Go.RowKit

theorem Blk.put4 {we : World} {k g g' : Nat} {t : TypeId} {cs : Array Value} (h : Blk we k t cs) (h1 : k ≠ g) (h2 : k ≠ g') (x1 x2 x3 x4 : Value) : Blk ((((we.setCell ⟨g, 0, none⟩ x1).setCell ⟨g, 1, none⟩ x2).setCell ⟨g', 0, none⟩ x3).setCell ⟨g', 1, none⟩ x4) k t cs := (h.far2 h1 _ _ _ _).far2 h2 _ _ _ _

set_option maxRecDepth 20000 in
set_option maxHeartbeats 4000000 in
theorem field_sums (w W : World) (gS gP : Nat) (n d p q r s S1 S2 P1 P2 U1 U2 M1 M2 Q1 Q2 X1 X2 Y1 Y2 O1 O2 V1 V2 Z1 Z2 T1 T2 : Int) (bX bY bU bV bZ bT : Bool)
    (u0 u1 u2 u9 u10 u11 u12 u13 u14 u15 u16 u17 u18 u19 u20 u21 u22 u23 u24 u25 u26 u27 u28 u29 u30 u31 u32 u33 u34 u35 u36 u37 u38 u39 u40 u41 u42 u43 u44 u45 u46 u47 u48 u49 u50 u51 u52 u53 u54 u55 u56 u57 u58 u59 u60 u61 u62 u63 u64 u65 u66 u67 u68 u69 u70 u71 u72 u73 u74 u75 u76 u77 u78 u79 u80 u81 u82 u83 u84 u85 u86 u87 u88 u89 u90 u91 u92 u93 u94 u95 u96 u97 u98 u99 u100 u101 u102 u103 u104 u105 u106 u107 u108 u109 u110 u111 u112 u113 u114 u115 u116 u117 u118 u119 u120 u121 u122 u123 u124 u125 u126 u127 u128 u129 u130 u131 u132 u133 u134 u135 u136 u137 u138 u139 u140 u141 u142 u143 u144 u145 u146 u147 u148 u149 u150 u151 u152 u153 u154 u155 u156 u157 u158 u159 u160 u161 u162 u163 u164 u165 u166 u167 u168 u169 u170 u171 u172 u173 u174 u175 u176 u177 u178 u179 u180 u181 u182 u183 u184 u185 u186 u187 u188 u189 u190 u191 u192 u193 u194 u195 u196 u197 u198 u199 u200 u201 u202 u203 : Value)
    (hB0 : Bo w W 23 (n, d) (p, q) (r, s))
    (hS : Blk W gS 23 #[.int .i64 S1, .int .i64 S2]) (hP : Blk W gP 23 #[.int .i64 P1, .int .i64 P2])
    (HBC : Hid (∀ W k t, Blk W k t #[.int .i64 p, .int .i64 q, .int .i64 r, .int .i64 s] → Calls Tryd.prog 9 #[.slice (some ⟨k, 0, none⟩) 2 2] W fun e w' => e = .returned (rv (U1, U2)) ∧ Below W.heap.size W w'))
    (HAU : Hid (∀ W k t, Blk W k t #[.int .i64 n, .int .i64 d, .int .i64 U1, .int .i64 U2] → Calls Tryd.prog 10 #[.slice (some ⟨k, 0, none⟩) 2 2] W fun e w' => e = .returned (rv (X1, X2)) ∧ Below W.heap.size W w'))
    (HAB : Hid (∀ W k t, Blk W k t #[.int .i64 n, .int .i64 d, .int .i64 p, .int .i64 q] → Calls Tryd.prog 10 #[.slice (some ⟨k, 0, none⟩) 2 2] W fun e w' => e = .returned (rv (P1, P2)) ∧ Below W.heap.size W w'))
    (HAC : Hid (∀ W k t, Blk W k t #[.int .i64 n, .int .i64 d, .int .i64 r, .int .i64 s] → Calls Tryd.prog 10 #[.slice (some ⟨k, 0, none⟩) 2 2] W fun e w' => e = .returned (rv (M1, M2)) ∧ Below W.heap.size W w'))
    (HPM : Hid (∀ W k t, Blk W k t #[.int .i64 P1, .int .i64 P2, .int .i64 M1, .int .i64 M2] → Calls Tryd.prog 9 #[.slice (some ⟨k, 0, none⟩) 2 2] W fun e w' => e = .returned (rv (Y1, Y2)) ∧ Below W.heap.size W w'))
    (HSC : Hid (∀ W k t, Blk W k t #[.int .i64 S1, .int .i64 S2, .int .i64 r, .int .i64 s] → Calls Tryd.prog 9 #[.slice (some ⟨k, 0, none⟩) 2 2] W fun e w' => e = .returned (rv (O1, O2)) ∧ Below W.heap.size W w'))
    (HAU2 : Hid (∀ W k t, Blk W k t #[.int .i64 n, .int .i64 d, .int .i64 U1, .int .i64 U2] → Calls Tryd.prog 9 #[.slice (some ⟨k, 0, none⟩) 2 2] W fun e w' => e = .returned (rv (V1, V2)) ∧ Below W.heap.size W w'))
    (HPC : Hid (∀ W k t, Blk W k t #[.int .i64 P1, .int .i64 P2, .int .i64 r, .int .i64 s] → Calls Tryd.prog 10 #[.slice (some ⟨k, 0, none⟩) 2 2] W fun e w' => e = .returned (rv (Z1, Z2)) ∧ Below W.heap.size W w'))
    (HBQ : Hid (∀ W k t, Blk W k t #[.int .i64 p, .int .i64 q, .int .i64 r, .int .i64 s] → Calls Tryd.prog 10 #[.slice (some ⟨k, 0, none⟩) 2 2] W fun e w' => e = .returned (rv (Q1, Q2)) ∧ Below W.heap.size W w'))
    (HAQ : Hid (∀ W k t, Blk W k t #[.int .i64 n, .int .i64 d, .int .i64 Q1, .int .i64 Q2] → Calls Tryd.prog 10 #[.slice (some ⟨k, 0, none⟩) 2 2] W fun e w' => e = .returned (rv (T1, T2)) ∧ Below W.heap.size W w'))
    (iX : ∀ w, Calls Tryd.prog 8 #[rv (X1, X2)] w fun e w' => e = .returned (.bool bX) ∧ Below w.heap.size w w')
    (iY : ∀ w, Calls Tryd.prog 8 #[rv (Y1, Y2)] w fun e w' => e = .returned (.bool bY) ∧ Below w.heap.size w w')
    (iU : ∀ w, Calls Tryd.prog 8 #[rv (O1, O2)] w fun e w' => e = .returned (.bool bU) ∧ Below w.heap.size w w')
    (iV : ∀ w, Calls Tryd.prog 8 #[rv (V1, V2)] w fun e w' => e = .returned (.bool bV) ∧ Below w.heap.size w w')
    (iZ : ∀ w, Calls Tryd.prog 8 #[rv (Z1, Z2)] w fun e w' => e = .returned (.bool bZ) ∧ Below w.heap.size w w')
    (iT : ∀ w, Calls Tryd.prog 8 #[rv (T1, T2)] w fun e w' => e = .returned (.bool bT) ∧ Below w.heap.size w w')
    (eX : bX = false ∨ (bX = true ∧ bY = false) ∨ (bX = true ∧ bY = true ∧ eqR X1 X2 Y1 Y2 = true))
    (eU : bU = false ∨ (bU = true ∧ bV = false) ∨ (bU = true ∧ bV = true ∧ eqR O1 O2 V1 V2 = true))
    (eZ : bZ = false ∨ (bZ = true ∧ bT = false) ∨ (bZ = true ∧ bT = true ∧ eqR Z1 Z2 T1 T2 = true)) :
    Code.wp Tryd.prog (tailOf 9 (Tryd.f3.body.getD .skip)) (bodyPost Tryd.prog Tryd.f3 fun e w' => e = .returned (.bool true) ∧ Below w.heap.size w w') { tmps := #[u0, u1, u2, .pointer (some ⟨w.heap.size, 0, none⟩), .pointer (some ⟨(w.heap.size + 1), 0, none⟩), .pointer (some ⟨(w.heap.size + 1 + 1), 0, none⟩), .bool false, .pointer (some ⟨gS, 0, none⟩), .pointer (some ⟨gP, 0, none⟩), u9, u10, u11, u12, u13, u14, u15, u16, u17, u18, u19, u20, u21, u22, u23, u24, u25, u26, u27, u28, u29, u30, u31, u32, u33, u34, u35, u36, u37, u38, u39, u40, u41, u42, u43, u44, u45, u46, u47, u48, u49, u50, u51, u52, u53, u54, u55, u56, u57, u58, u59, u60, u61, u62, u63, u64, u65, u66, u67, u68, u69, u70, u71, u72, u73, u74, u75, u76, u77, u78, u79, u80, u81, u82, u83, u84, u85, u86, u87, u88, u89, u90, u91, u92, u93, u94, u95, u96, u97, u98, u99, u100, u101, u102, u103, u104, u105, u106, u107, u108, u109, u110, u111, u112, u113, u114, u115, u116, u117, u118, u119, u120, u121, u122, u123, u124, u125, u126, u127, u128, u129, u130, u131, u132, u133, u134, u135, u136, u137, u138, u139, u140, u141, u142, u143, u144, u145, u146, u147, u148, u149, u150, u151, u152, u153, u154, u155, u156, u157, u158, u159, u160, u161, u162, u163, u164, u165, u166, u167, u168, u169, u170, u171, u172, u173, u174, u175, u176, u177, u178, u179, u180, u181, u182, u183, u184, u185, u186, u187, u188, u189, u190, u191, u192, u193, u194, u195, u196, u197, u198, u199, u200, u201, u202, u203], defers := [] } W := by
  have IX := Lib.hid iX
  have IY := Lib.hid iY
  have IU := Lib.hid iU
  have IV := Lib.hid iV
  have IZ := Lib.hid iZ
  have IT := Lib.hid iT
  have EX := Lib.hid eX
  have EU := Lib.hid eU
  have EZ := Lib.hid eZ
  clear iX iY iU iV iZ iT eX eU eZ
  simp only [tailOf, Tryd.f3, Option.getD_some]
  go_upto_region 15 with fail
  have ca0 : W.cell? ⟨w.heap.size, 0, none⟩ = some (.int .i64 n) := (hB0.pa).cell 0
  have fca0 := (hB0.pa).frozen 0
  have ca1 : W.cell? ⟨w.heap.size, 1, none⟩ = some (.int .i64 d) := (hB0.pa).cell 1
  have fca1 := (hB0.pa).frozen 1
  have lca := (hB0.pa).lt
  have cb0 : W.cell? ⟨w.heap.size + 1, 0, none⟩ = some (.int .i64 p) := (hB0.pb).cell 0
  have fcb0 := (hB0.pb).frozen 0
  have cb1 : W.cell? ⟨w.heap.size + 1, 1, none⟩ = some (.int .i64 q) := (hB0.pb).cell 1
  have fcb1 := (hB0.pb).frozen 1
  have lcb := (hB0.pb).lt
  have cc0 : W.cell? ⟨w.heap.size + 1 + 1, 0, none⟩ = some (.int .i64 r) := (hB0.pc).cell 0
  have fcc0 := (hB0.pc).frozen 0
  have cc1 : W.cell? ⟨w.heap.size + 1 + 1, 1, none⟩ = some (.int .i64 s) := (hB0.pc).cell 1
  have fcc1 := (hB0.pc).frozen 1
  have lcc := (hB0.pc).lt
  have cs0 : W.cell? ⟨gS, 0, none⟩ = some (.int .i64 S1) := (hS).cell 0
  have fcs0 := (hS).frozen 0
  have cs1 : W.cell? ⟨gS, 1, none⟩ = some (.int .i64 S2) := (hS).cell 1
  have fcs1 := (hS).frozen 1
  have lcs := (hS).lt
  have cp0 : W.cell? ⟨gP, 0, none⟩ = some (.int .i64 P1) := (hP).cell 0
  have fcp0 := (hP).frozen 0
  have cp1 : W.cell? ⟨gP, 1, none⟩ = some (.int .i64 P2) := (hP).cell 1
  have fcp1 := (hP).frozen 1
  have lcp := (hP).lt
  refine wp_region_loose 19 [Loose.rowL 3 125 23 2 #[.int .i64 p, .int .i64 q, .int .i64 r, .int .i64 s] W.heap.size, Loose.rowL 5 127 23 2 #[.int .i64 n, .int .i64 d, .int .i64 U1, .int .i64 U2] W.heap.size, Loose.rowL 9 131 23 2 #[.int .i64 n, .int .i64 d, .int .i64 p, .int .i64 q] W.heap.size, Loose.rowL 13 135 23 2 #[.int .i64 n, .int .i64 d, .int .i64 r, .int .i64 s] W.heap.size, Loose.rowL 15 137 23 2 #[.int .i64 P1, .int .i64 P2, .int .i64 M1, .int .i64 M2] W.heap.size, Loose.claim 4 126 (.agg #[.int .i64 U1, .int .i64 U2]), Loose.claim 6 128 (.agg #[.int .i64 X1, .int .i64 X2]), Loose.claim 10 132 (.agg #[.int .i64 P1, .int .i64 P2]), Loose.claim 14 136 (.agg #[.int .i64 M1, .int .i64 M2]), Loose.claim 16 138 (.agg #[.int .i64 Y1, .int .i64 Y2]), Loose.cells 17 9 23 #[.int .i64 0, .int .i64 0] W.heap.size, Loose.cells 18 10 23 #[.int .i64 0, .int .i64 0] W.heap.size] (by kernel_rfl) rfl (by kernel_rfl) (by kernel_rfl) (by kernel_rfl) (by kernel_rfl) ?_
  simp only [headL, hushL, List.find?, Loose.claim_i, Loose.cells_i, Loose.rowL_i, Loose.claim_hush, Loose.cells_hush, Loose.rowL_hush, Nat.reduceBEq, Nat.reduceAdd]
  repeat (go_big_quiet_step (fail))
  refine wpQuiet_nil ⟨fun V m15 => ?_, fun V m15 => ?_⟩
  · simp only [obs_cons, obs_nil, List.getElem?_cons_zero, List.getElem?_cons_succ, fill_nil, fill_claim, fill_cells, fill_rowL, Loose.claim_i, Loose.cells_i, Loose.rowL_i, Act.put, List.setIfInBounds_toArray, List.set_cons_zero, List.set_cons_succ]
    have hsz := grow_size m15
    refine ⟨fun _ => ?_, fun _ => ?_, fun _ => ?_, fun _ => ?_, fun _ => ?_, fun hw => ?_, fun hw => ?_, fun hw => ?_, fun hw => ?_, fun hw => ?_, fun _ => ?_, fun _ => ?_, trivial⟩
    · go_wp2_with fail
      exact post_rowL rfl hsz
    · go_wp2_with fail
      exact post_rowL rfl hsz
    · go_wp2_with fail
      exact post_rowL rfl hsz
    · go_wp2_with fail
      exact post_rowL rfl hsz
    · go_wp2_with fail
      exact post_rowL rfl hsz
    · obtain ⟨h3, _⟩ := hw
      obtain ⟨b, hv, hk, hB⟩ := h3 (by kernel_rfl)
      change V 3 = _ at hv
      rw [hv]
      clear hv h3
      go_wp2_with fail
      ((with_reducible refine (HBC.out _ _ _ hB).mono ?_); rintro e w' ⟨rfl, hbw⟩)
      obtain ⟨m4, rfl⟩ := grow_mk hbw
      clear hbw
      go_wp2_with fail
      exact post_claim rfl (grow_trans_below _ _)
    · obtain ⟨_, h3, _⟩ := hw
      obtain ⟨b, hv, hk, hB⟩ := h3 (by kernel_rfl)
      change V 5 = _ at hv
      rw [hv]
      clear hv h3
      go_wp2_with fail
      ((with_reducible refine (HAU.out _ _ _ hB).mono ?_); rintro e w' ⟨rfl, hbw⟩)
      obtain ⟨m4, rfl⟩ := grow_mk hbw
      clear hbw
      go_wp2_with fail
      exact post_claim rfl (grow_trans_below _ _)
    · obtain ⟨_, _, h3, _⟩ := hw
      obtain ⟨b, hv, hk, hB⟩ := h3 (by kernel_rfl)
      change V 9 = _ at hv
      rw [hv]
      clear hv h3
      go_wp2_with fail
      ((with_reducible refine (HAB.out _ _ _ hB).mono ?_); rintro e w' ⟨rfl, hbw⟩)
      obtain ⟨m4, rfl⟩ := grow_mk hbw
      clear hbw
      go_wp2_with fail
      exact post_claim rfl (grow_trans_below _ _)
    · obtain ⟨_, _, _, h3, _⟩ := hw
      obtain ⟨b, hv, hk, hB⟩ := h3 (by kernel_rfl)
      change V 13 = _ at hv
      rw [hv]
      clear hv h3
      go_wp2_with fail
      ((with_reducible refine (HAC.out _ _ _ hB).mono ?_); rintro e w' ⟨rfl, hbw⟩)
      obtain ⟨m4, rfl⟩ := grow_mk hbw
      clear hbw
      go_wp2_with fail
      exact post_claim rfl (grow_trans_below _ _)
    · obtain ⟨_, _, _, _, h3, _⟩ := hw
      obtain ⟨b, hv, hk, hB⟩ := h3 (by kernel_rfl)
      change V 15 = _ at hv
      rw [hv]
      clear hv h3
      go_wp2_with fail
      ((with_reducible refine (HPM.out _ _ _ hB).mono ?_); rintro e w' ⟨rfl, hbw⟩)
      obtain ⟨m4, rfl⟩ := grow_mk hbw
      clear hbw
      go_wp2_with fail
      exact post_claim rfl (grow_trans_below _ _)
    · go_wp2_with fail
      exact post_cells rfl hsz
    · go_wp2_with fail
      exact post_cells rfl hsz
  · simp only [laws_nil, laws_claim, laws_cells, laws_rowL, dist_nil, dist_claim, dist_cells, dist_rowL, dist1_nil, dist1_claim, dist1_cells, dist1_rowL, dist1_cells_rowL, dist1_rowL_cells, List.drop_succ_cons, List.drop_zero, and_true, fill_nil, fill_claim, fill_cells, fill_rowL, Loose.claim_i, Loose.cells_i, Loose.rowL_i, Act.put, List.setIfInBounds_toArray, List.set_cons_zero, List.set_cons_succ]
    rintro ⟨_, _, _, _, _, ⟨gX, hg, hk, hX0⟩, gY, hg', hk', hY0⟩ ⟨_, _, _, _, _, hne⟩
    replace hne := ownP_ne hne hg hg'
    rw [hg, hg']
    clear hg hg'
    have nhS : gS ≠ gX := by have := hS.lt; omega
    have mhS : gS ≠ gY := by have := hS.lt; omega
    have nhP : gP ≠ gX := by have := hP.lt; omega
    have mhP : gP ≠ gY := by have := hP.lt; omega
    have hk3 : w.heap.size + 3 ≤ gX := by have := hB0.pc.lt; omega
    have hk4 : w.heap.size + 3 ≤ gY := by have := hB0.pc.lt; omega
    clear ca0 ca1 fca0 fca1 lca cb0 cb1 fcb0 fcb1 lcb cc0 cc1 fcc0 fcc1 lcc
    clear cs0 cs1 fcs0 fcs1 lcs
    clear cp0 cp1 fcp0 fcp1 lcp
    replace hB0 := hB0.grow m15
    replace hS := hS.grow m15
    replace hP := hP.grow m15
    clear hk hk'
    generalize grow W m15 = we15 at *
    have cx0 : we15.cell? ⟨gX, 0, none⟩ = some (.int .i64 0) := (hX0).cell 0
    have fcx0 := (hX0).frozen 0
    have cx1 : we15.cell? ⟨gX, 1, none⟩ = some (.int .i64 0) := (hX0).cell 1
    have fcx1 := (hX0).frozen 1
    have lcx := (hX0).lt
    have cy0 : we15.cell? ⟨gY, 0, none⟩ = some (.int .i64 0) := (hY0).cell 0
    have fcy0 := (hY0).frozen 0
    have cy1 : we15.cell? ⟨gY, 1, none⟩ = some (.int .i64 0) := (hY0).cell 1
    have fcy1 := (hY0).frozen 1
    have lcy := (hY0).lt
    have hne' := Ne.symm hne
    go_upto_region 16 with fail
    have hB1 := two_puts hB0 hX0 hY0 hk3 hk4 hne X1 X2 Y1 Y2
    replace hS := hS.put4 nhS mhS (.int .i64 X1) (.int .i64 X2) (.int .i64 Y1) (.int .i64 Y2)
    replace hP := hP.put4 nhP mhP (.int .i64 X1) (.int .i64 X2) (.int .i64 Y1) (.int .i64 Y2)
    clear cx0 cx1 cy0 cy1 fcx0 fcx1 fcy0 fcy1 lcx lcy hX0 hY0 hB0
    generalize ((((we15.setCell ⟨gX, 0, none⟩ (.int .i64 X1)).setCell ⟨gX, 1, none⟩ (.int .i64 X2)).setCell ⟨gY, 0, none⟩ (.int .i64 Y1)).setCell ⟨gY, 1, none⟩ (.int .i64 Y2)) = wf15 at *
    obtain ⟨hB0, hX, hY⟩ := hB1
    clear hne hne' hk3 hk4 nhS mhS nhP mhP
    go_upto_region 16 with fail
    have ca0 : wf15.cell? ⟨w.heap.size, 0, none⟩ = some (.int .i64 n) := (hB0.pa).cell 0
    have fca0 := (hB0.pa).frozen 0
    have ca1 : wf15.cell? ⟨w.heap.size, 1, none⟩ = some (.int .i64 d) := (hB0.pa).cell 1
    have fca1 := (hB0.pa).frozen 1
    have lca := (hB0.pa).lt
    have cb0 : wf15.cell? ⟨w.heap.size + 1, 0, none⟩ = some (.int .i64 p) := (hB0.pb).cell 0
    have fcb0 := (hB0.pb).frozen 0
    have cb1 : wf15.cell? ⟨w.heap.size + 1, 1, none⟩ = some (.int .i64 q) := (hB0.pb).cell 1
    have fcb1 := (hB0.pb).frozen 1
    have lcb := (hB0.pb).lt
    have cc0 : wf15.cell? ⟨w.heap.size + 1 + 1, 0, none⟩ = some (.int .i64 r) := (hB0.pc).cell 0
    have fcc0 := (hB0.pc).frozen 0
    have cc1 : wf15.cell? ⟨w.heap.size + 1 + 1, 1, none⟩ = some (.int .i64 s) := (hB0.pc).cell 1
    have fcc1 := (hB0.pc).frozen 1
    have lcc := (hB0.pc).lt
    have cs0 : wf15.cell? ⟨gS, 0, none⟩ = some (.int .i64 S1) := (hS).cell 0
    have fcs0 := (hS).frozen 0
    have cs1 : wf15.cell? ⟨gS, 1, none⟩ = some (.int .i64 S2) := (hS).cell 1
    have fcs1 := (hS).frozen 1
    have lcs := (hS).lt
    have cp0 : wf15.cell? ⟨gP, 0, none⟩ = some (.int .i64 P1) := (hP).cell 0
    have fcp0 := (hP).frozen 0
    have cp1 : wf15.cell? ⟨gP, 1, none⟩ = some (.int .i64 P2) := (hP).cell 1
    have fcp1 := (hP).frozen 1
    have lcp := (hP).lt
    have cX0 : wf15.cell? ⟨gX, 0, none⟩ = some (.int .i64 X1) := (hX).cell 0
    have fcX0 := (hX).frozen 0
    have cX1 : wf15.cell? ⟨gX, 1, none⟩ = some (.int .i64 X2) := (hX).cell 1
    have fcX1 := (hX).frozen 1
    have lcX := (hX).lt
    have cY0 : wf15.cell? ⟨gY, 0, none⟩ = some (.int .i64 Y1) := (hY).cell 0
    have fcY0 := (hY).frozen 0
    have cY1 : wf15.cell? ⟨gY, 1, none⟩ = some (.int .i64 Y2) := (hY).cell 1
    have fcY1 := (hY).frozen 1
    have lcY := (hY).lt
    refine wp_region_loose 13 [Loose.rowL 2 141 23 2 #[.int .i64 S1, .int .i64 S2, .int .i64 r, .int .i64 s] wf15.heap.size, Loose.rowL 7 146 23 2 #[.int .i64 p, .int .i64 q, .int .i64 r, .int .i64 s] wf15.heap.size, Loose.rowL 9 148 23 2 #[.int .i64 n, .int .i64 d, .int .i64 U1, .int .i64 U2] wf15.heap.size, Loose.claim 3 142 (.agg #[.int .i64 O1, .int .i64 O2]), Loose.claim 8 147 (.agg #[.int .i64 U1, .int .i64 U2]), Loose.claim 10 149 (.agg #[.int .i64 V1, .int .i64 V2]), Loose.cells 11 11 23 #[.int .i64 0, .int .i64 0] wf15.heap.size, Loose.cells 12 12 23 #[.int .i64 0, .int .i64 0] wf15.heap.size] (by kernel_rfl) rfl (by kernel_rfl) (by kernel_rfl) (by kernel_rfl) (by kernel_rfl) ?_
    simp only [headL, hushL, List.find?, Loose.claim_i, Loose.cells_i, Loose.rowL_i, Loose.claim_hush, Loose.cells_hush, Loose.rowL_hush, Nat.reduceBEq, Nat.reduceAdd]
    repeat (go_big_quiet_step (fail))
    refine wpQuiet_nil ⟨fun V m16 => ?_, fun V m16 => ?_⟩
    · simp only [obs_cons, obs_nil, List.getElem?_cons_zero, List.getElem?_cons_succ, fill_nil, fill_claim, fill_cells, fill_rowL, Loose.claim_i, Loose.cells_i, Loose.rowL_i, Act.put, List.setIfInBounds_toArray, List.set_cons_zero, List.set_cons_succ]
      have hsz := grow_size m16
      refine ⟨fun _ => ?_, fun _ => ?_, fun _ => ?_, fun hw => ?_, fun hw => ?_, fun hw => ?_, fun _ => ?_, fun _ => ?_, trivial⟩
      · go_wp2_with fail
        exact post_rowL rfl hsz
      · go_wp2_with fail
        exact post_rowL rfl hsz
      · go_wp2_with fail
        exact post_rowL rfl hsz
      · obtain ⟨h3, _⟩ := hw
        obtain ⟨b, hv, hk, hB⟩ := h3 (by kernel_rfl)
        change V 2 = _ at hv
        rw [hv]
        clear hv h3
        go_wp2_with fail
        ((with_reducible refine (HSC.out _ _ _ hB).mono ?_); rintro e w' ⟨rfl, hbw⟩)
        obtain ⟨m4, rfl⟩ := grow_mk hbw
        clear hbw
        go_wp2_with fail
        exact post_claim rfl (grow_trans_below _ _)
      · obtain ⟨_, h3, _⟩ := hw
        obtain ⟨b, hv, hk, hB⟩ := h3 (by kernel_rfl)
        change V 7 = _ at hv
        rw [hv]
        clear hv h3
        go_wp2_with fail
        ((with_reducible refine (HBC.out _ _ _ hB).mono ?_); rintro e w' ⟨rfl, hbw⟩)
        obtain ⟨m4, rfl⟩ := grow_mk hbw
        clear hbw
        go_wp2_with fail
        exact post_claim rfl (grow_trans_below _ _)
      · obtain ⟨_, _, h3, _⟩ := hw
        obtain ⟨b, hv, hk, hB⟩ := h3 (by kernel_rfl)
        change V 9 = _ at hv
        rw [hv]
        clear hv h3
        go_wp2_with fail
        ((with_reducible refine (HAU2.out _ _ _ hB).mono ?_); rintro e w' ⟨rfl, hbw⟩)
        obtain ⟨m4, rfl⟩ := grow_mk hbw
        clear hbw
        go_wp2_with fail
        exact post_claim rfl (grow_trans_below _ _)
      · go_wp2_with fail
        exact post_cells rfl hsz
      · go_wp2_with fail
        exact post_cells rfl hsz
    · simp only [laws_nil, laws_claim, laws_cells, laws_rowL, dist_nil, dist_claim, dist_cells, dist_rowL, dist1_nil, dist1_claim, dist1_cells, dist1_rowL, dist1_cells_rowL, dist1_rowL_cells, List.drop_succ_cons, List.drop_zero, and_true, fill_nil, fill_claim, fill_cells, fill_rowL, Loose.claim_i, Loose.cells_i, Loose.rowL_i, Act.put, List.setIfInBounds_toArray, List.set_cons_zero, List.set_cons_succ]
      rintro ⟨_, _, _, ⟨gO, hg, hk, hX0⟩, gV, hg', hk', hY0⟩ ⟨_, _, _, hne⟩
      replace hne := ownP_ne hne hg hg'
      rw [hg, hg']
      clear hg hg'
      have nhS : gS ≠ gO := by have := hS.lt; omega
      have mhS : gS ≠ gV := by have := hS.lt; omega
      have nhP : gP ≠ gO := by have := hP.lt; omega
      have mhP : gP ≠ gV := by have := hP.lt; omega
      have nhX : gX ≠ gO := by have := hX.lt; omega
      have mhX : gX ≠ gV := by have := hX.lt; omega
      have nhY : gY ≠ gO := by have := hY.lt; omega
      have mhY : gY ≠ gV := by have := hY.lt; omega
      have hk3 : w.heap.size + 3 ≤ gO := by have := hB0.pc.lt; omega
      have hk4 : w.heap.size + 3 ≤ gV := by have := hB0.pc.lt; omega
      clear ca0 ca1 fca0 fca1 lca cb0 cb1 fcb0 fcb1 lcb cc0 cc1 fcc0 fcc1 lcc
      clear cs0 cs1 fcs0 fcs1 lcs
      clear cp0 cp1 fcp0 fcp1 lcp
      clear cX0 cX1 fcX0 fcX1 lcX
      clear cY0 cY1 fcY0 fcY1 lcY
      replace hB0 := hB0.grow m16
      replace hS := hS.grow m16
      replace hP := hP.grow m16
      replace hX := hX.grow m16
      replace hY := hY.grow m16
      clear hk hk'
      generalize grow wf15 m16 = we16 at *
      have cx0 : we16.cell? ⟨gO, 0, none⟩ = some (.int .i64 0) := (hX0).cell 0
      have fcx0 := (hX0).frozen 0
      have cx1 : we16.cell? ⟨gO, 1, none⟩ = some (.int .i64 0) := (hX0).cell 1
      have fcx1 := (hX0).frozen 1
      have lcx := (hX0).lt
      have cy0 : we16.cell? ⟨gV, 0, none⟩ = some (.int .i64 0) := (hY0).cell 0
      have fcy0 := (hY0).frozen 0
      have cy1 : we16.cell? ⟨gV, 1, none⟩ = some (.int .i64 0) := (hY0).cell 1
      have fcy1 := (hY0).frozen 1
      have lcy := (hY0).lt
      have hne' := Ne.symm hne
      go_upto_region 17 with fail
      have hB1 := two_puts hB0 hX0 hY0 hk3 hk4 hne O1 O2 V1 V2
      replace hS := hS.put4 nhS mhS (.int .i64 O1) (.int .i64 O2) (.int .i64 V1) (.int .i64 V2)
      replace hP := hP.put4 nhP mhP (.int .i64 O1) (.int .i64 O2) (.int .i64 V1) (.int .i64 V2)
      replace hX := hX.put4 nhX mhX (.int .i64 O1) (.int .i64 O2) (.int .i64 V1) (.int .i64 V2)
      replace hY := hY.put4 nhY mhY (.int .i64 O1) (.int .i64 O2) (.int .i64 V1) (.int .i64 V2)
      clear cx0 cx1 cy0 cy1 fcx0 fcx1 fcy0 fcy1 lcx lcy hX0 hY0 hB0
      generalize ((((we16.setCell ⟨gO, 0, none⟩ (.int .i64 O1)).setCell ⟨gO, 1, none⟩ (.int .i64 O2)).setCell ⟨gV, 0, none⟩ (.int .i64 V1)).setCell ⟨gV, 1, none⟩ (.int .i64 V2)) = wf16 at *
      obtain ⟨hB0, hO, hV⟩ := hB1
      clear hne hne' hk3 hk4 nhS mhS nhP mhP nhX mhX nhY mhY
      go_upto_region 17 with fail
      have ca0 : wf16.cell? ⟨w.heap.size, 0, none⟩ = some (.int .i64 n) := (hB0.pa).cell 0
      have fca0 := (hB0.pa).frozen 0
      have ca1 : wf16.cell? ⟨w.heap.size, 1, none⟩ = some (.int .i64 d) := (hB0.pa).cell 1
      have fca1 := (hB0.pa).frozen 1
      have lca := (hB0.pa).lt
      have cb0 : wf16.cell? ⟨w.heap.size + 1, 0, none⟩ = some (.int .i64 p) := (hB0.pb).cell 0
      have fcb0 := (hB0.pb).frozen 0
      have cb1 : wf16.cell? ⟨w.heap.size + 1, 1, none⟩ = some (.int .i64 q) := (hB0.pb).cell 1
      have fcb1 := (hB0.pb).frozen 1
      have lcb := (hB0.pb).lt
      have cc0 : wf16.cell? ⟨w.heap.size + 1 + 1, 0, none⟩ = some (.int .i64 r) := (hB0.pc).cell 0
      have fcc0 := (hB0.pc).frozen 0
      have cc1 : wf16.cell? ⟨w.heap.size + 1 + 1, 1, none⟩ = some (.int .i64 s) := (hB0.pc).cell 1
      have fcc1 := (hB0.pc).frozen 1
      have lcc := (hB0.pc).lt
      have cs0 : wf16.cell? ⟨gS, 0, none⟩ = some (.int .i64 S1) := (hS).cell 0
      have fcs0 := (hS).frozen 0
      have cs1 : wf16.cell? ⟨gS, 1, none⟩ = some (.int .i64 S2) := (hS).cell 1
      have fcs1 := (hS).frozen 1
      have lcs := (hS).lt
      have cp0 : wf16.cell? ⟨gP, 0, none⟩ = some (.int .i64 P1) := (hP).cell 0
      have fcp0 := (hP).frozen 0
      have cp1 : wf16.cell? ⟨gP, 1, none⟩ = some (.int .i64 P2) := (hP).cell 1
      have fcp1 := (hP).frozen 1
      have lcp := (hP).lt
      have cX0 : wf16.cell? ⟨gX, 0, none⟩ = some (.int .i64 X1) := (hX).cell 0
      have fcX0 := (hX).frozen 0
      have cX1 : wf16.cell? ⟨gX, 1, none⟩ = some (.int .i64 X2) := (hX).cell 1
      have fcX1 := (hX).frozen 1
      have lcX := (hX).lt
      have cY0 : wf16.cell? ⟨gY, 0, none⟩ = some (.int .i64 Y1) := (hY).cell 0
      have fcY0 := (hY).frozen 0
      have cY1 : wf16.cell? ⟨gY, 1, none⟩ = some (.int .i64 Y2) := (hY).cell 1
      have fcY1 := (hY).frozen 1
      have lcY := (hY).lt
      have cO0 : wf16.cell? ⟨gO, 0, none⟩ = some (.int .i64 O1) := (hO).cell 0
      have fcO0 := (hO).frozen 0
      have cO1 : wf16.cell? ⟨gO, 1, none⟩ = some (.int .i64 O2) := (hO).cell 1
      have fcO1 := (hO).frozen 1
      have lcO := (hO).lt
      have cV0 : wf16.cell? ⟨gV, 0, none⟩ = some (.int .i64 V1) := (hV).cell 0
      have fcV0 := (hV).frozen 0
      have cV1 : wf16.cell? ⟨gV, 1, none⟩ = some (.int .i64 V2) := (hV).cell 1
      have fcV1 := (hV).frozen 1
      have lcV := (hV).lt
      go_cut [13, 14] from 150 to 160 (fun s t wx => ∃ g g' : Nat, s = .pointer (some ⟨g, 0, none⟩) ∧ t = .pointer (some ⟨g', 0, none⟩) ∧ Below w.heap.size w wx ∧ Blk wx gX 23 #[.int .i64 X1, .int .i64 X2] ∧ Blk wx gY 23 #[.int .i64 Y1, .int .i64 Y2] ∧ Blk wx gO 23 #[.int .i64 O1, .int .i64 O2] ∧ Blk wx gV 23 #[.int .i64 V1, .int .i64 V2] ∧ Blk wx g 23 #[.int .i64 Z1, .int .i64 Z2] ∧ Blk wx g' 23 #[.int .i64 T1, .int .i64 T2])
      case first =>
        refine wp_region_loose 13 [Loose.rowL 2 152 23 2 #[.int .i64 P1, .int .i64 P2, .int .i64 r, .int .i64 s] wf16.heap.size, Loose.rowL 7 157 23 2 #[.int .i64 p, .int .i64 q, .int .i64 r, .int .i64 s] wf16.heap.size, Loose.rowL 9 159 23 2 #[.int .i64 n, .int .i64 d, .int .i64 Q1, .int .i64 Q2] wf16.heap.size, Loose.claim 3 153 (.agg #[.int .i64 Z1, .int .i64 Z2]), Loose.claim 8 158 (.agg #[.int .i64 Q1, .int .i64 Q2]), Loose.claim 10 160 (.agg #[.int .i64 T1, .int .i64 T2]), Loose.cells 11 13 23 #[.int .i64 0, .int .i64 0] wf16.heap.size, Loose.cells 12 14 23 #[.int .i64 0, .int .i64 0] wf16.heap.size] (by kernel_rfl) rfl (by kernel_rfl) (by kernel_rfl) (by kernel_rfl) (by kernel_rfl) ?_
        simp only [headL, hushL, List.find?, Loose.claim_i, Loose.cells_i, Loose.rowL_i, Loose.claim_hush, Loose.cells_hush, Loose.rowL_hush, Nat.reduceBEq, Nat.reduceAdd]
        repeat (go_big_quiet_step (fail))
        refine wpQuiet_nil ⟨fun V m17 => ?_, fun V m17 => ?_⟩
        · simp only [obs_cons, obs_nil, List.getElem?_cons_zero, List.getElem?_cons_succ, fill_nil, fill_claim, fill_cells, fill_rowL, Loose.claim_i, Loose.cells_i, Loose.rowL_i, Act.put, List.setIfInBounds_toArray, List.set_cons_zero, List.set_cons_succ]
          have hsz := grow_size m17
          refine ⟨fun _ => ?_, fun _ => ?_, fun _ => ?_, fun hw => ?_, fun hw => ?_, fun hw => ?_, fun _ => ?_, fun _ => ?_, trivial⟩
          · go_wp2_with fail
            exact post_rowL rfl hsz
          · go_wp2_with fail
            exact post_rowL rfl hsz
          · go_wp2_with fail
            exact post_rowL rfl hsz
          · obtain ⟨h3, _⟩ := hw
            obtain ⟨b, hv, hk, hB⟩ := h3 (by kernel_rfl)
            change V 2 = _ at hv
            rw [hv]
            clear hv h3
            go_wp2_with fail
            ((with_reducible refine (HPC.out _ _ _ hB).mono ?_); rintro e w' ⟨rfl, hbw⟩)
            obtain ⟨m4, rfl⟩ := grow_mk hbw
            clear hbw
            go_wp2_with fail
            exact post_claim rfl (grow_trans_below _ _)
          · obtain ⟨_, h3, _⟩ := hw
            obtain ⟨b, hv, hk, hB⟩ := h3 (by kernel_rfl)
            change V 7 = _ at hv
            rw [hv]
            clear hv h3
            go_wp2_with fail
            ((with_reducible refine (HBQ.out _ _ _ hB).mono ?_); rintro e w' ⟨rfl, hbw⟩)
            obtain ⟨m4, rfl⟩ := grow_mk hbw
            clear hbw
            go_wp2_with fail
            exact post_claim rfl (grow_trans_below _ _)
          · obtain ⟨_, _, h3, _⟩ := hw
            obtain ⟨b, hv, hk, hB⟩ := h3 (by kernel_rfl)
            change V 9 = _ at hv
            rw [hv]
            clear hv h3
            go_wp2_with fail
            ((with_reducible refine (HAQ.out _ _ _ hB).mono ?_); rintro e w' ⟨rfl, hbw⟩)
            obtain ⟨m4, rfl⟩ := grow_mk hbw
            clear hbw
            go_wp2_with fail
            exact post_claim rfl (grow_trans_below _ _)
          · go_wp2_with fail
            exact post_cells rfl hsz
          · go_wp2_with fail
            exact post_cells rfl hsz
        · simp only [laws_nil, laws_claim, laws_cells, laws_rowL, dist_nil, dist_claim, dist_cells, dist_rowL, dist1_nil, dist1_claim, dist1_cells, dist1_rowL, dist1_cells_rowL, dist1_rowL_cells, List.drop_succ_cons, List.drop_zero, and_true, fill_nil, fill_claim, fill_cells, fill_rowL, Loose.claim_i, Loose.cells_i, Loose.rowL_i, Act.put, List.setIfInBounds_toArray, List.set_cons_zero, List.set_cons_succ]
          rintro ⟨_, _, _, ⟨gZ, hg, hk, hX0⟩, gT, hg', hk', hY0⟩ ⟨_, _, _, hne⟩
          replace hne := ownP_ne hne hg hg'
          rw [hg, hg']
          clear hg hg'
          have nhS : gS ≠ gZ := by have := hS.lt; omega
          have mhS : gS ≠ gT := by have := hS.lt; omega
          have nhP : gP ≠ gZ := by have := hP.lt; omega
          have mhP : gP ≠ gT := by have := hP.lt; omega
          have nhX : gX ≠ gZ := by have := hX.lt; omega
          have mhX : gX ≠ gT := by have := hX.lt; omega
          have nhY : gY ≠ gZ := by have := hY.lt; omega
          have mhY : gY ≠ gT := by have := hY.lt; omega
          have nhO : gO ≠ gZ := by have := hO.lt; omega
          have mhO : gO ≠ gT := by have := hO.lt; omega
          have nhV : gV ≠ gZ := by have := hV.lt; omega
          have mhV : gV ≠ gT := by have := hV.lt; omega
          have hk3 : w.heap.size + 3 ≤ gZ := by have := hB0.pc.lt; omega
          have hk4 : w.heap.size + 3 ≤ gT := by have := hB0.pc.lt; omega
          clear ca0 ca1 fca0 fca1 lca cb0 cb1 fcb0 fcb1 lcb cc0 cc1 fcc0 fcc1 lcc
          clear cs0 cs1 fcs0 fcs1 lcs
          clear cp0 cp1 fcp0 fcp1 lcp
          clear cX0 cX1 fcX0 fcX1 lcX
          clear cY0 cY1 fcY0 fcY1 lcY
          clear cO0 cO1 fcO0 fcO1 lcO
          clear cV0 cV1 fcV0 fcV1 lcV
          replace hB0 := hB0.grow m17
          replace hS := hS.grow m17
          replace hP := hP.grow m17
          replace hX := hX.grow m17
          replace hY := hY.grow m17
          replace hO := hO.grow m17
          replace hV := hV.grow m17
          clear hk hk'
          generalize grow wf16 m17 = we17 at *
          have cx0 : we17.cell? ⟨gZ, 0, none⟩ = some (.int .i64 0) := (hX0).cell 0
          have fcx0 := (hX0).frozen 0
          have cx1 : we17.cell? ⟨gZ, 1, none⟩ = some (.int .i64 0) := (hX0).cell 1
          have fcx1 := (hX0).frozen 1
          have lcx := (hX0).lt
          have cy0 : we17.cell? ⟨gT, 0, none⟩ = some (.int .i64 0) := (hY0).cell 0
          have fcy0 := (hY0).frozen 0
          have cy1 : we17.cell? ⟨gT, 1, none⟩ = some (.int .i64 0) := (hY0).cell 1
          have fcy1 := (hY0).frozen 1
          have lcy := (hY0).lt
          have hne' := Ne.symm hne
          go_wp2_with fail
          have hB1 := two_puts hB0 hX0 hY0 hk3 hk4 hne Z1 Z2 T1 T2
          replace hS := hS.put4 nhS mhS (.int .i64 Z1) (.int .i64 Z2) (.int .i64 T1) (.int .i64 T2)
          replace hP := hP.put4 nhP mhP (.int .i64 Z1) (.int .i64 Z2) (.int .i64 T1) (.int .i64 T2)
          replace hX := hX.put4 nhX mhX (.int .i64 Z1) (.int .i64 Z2) (.int .i64 T1) (.int .i64 T2)
          replace hY := hY.put4 nhY mhY (.int .i64 Z1) (.int .i64 Z2) (.int .i64 T1) (.int .i64 T2)
          replace hO := hO.put4 nhO mhO (.int .i64 Z1) (.int .i64 Z2) (.int .i64 T1) (.int .i64 T2)
          replace hV := hV.put4 nhV mhV (.int .i64 Z1) (.int .i64 Z2) (.int .i64 T1) (.int .i64 T2)
          clear cx0 cx1 cy0 cy1 fcx0 fcx1 fcy0 fcy1 lcx lcy hX0 hY0 hB0
          go_meet
          exact ⟨gZ, gT, rfl, rfl, hB1.1.below, hX, hY, hO, hV, hB1.2.1, hB1.2.2⟩
      case rest =>
        rename_i K hK
        obtain ⟨g, g', rfl, rfl, hbe, hX, hY, hO, hV, hZ, hT⟩ := hcut
        refine hK _ _ ?_
        have h := fun v0 v1 v2 v3 v4 v5 v7 v8 v15 v16 v17 v18 v19 v20 v21 v22 v23 v24 v25 v26 v27 v28 v29 v30 v31 v32 v33 v34 v35 v36 v37 v38 v39 v40 v41 v42 v43 v44 v45 v46 v47 v48 v49 v50 v51 v52 v53 v54 v55 v56 v57 v58 v59 v60 v61 v62 v63 v64 v65 v66 v67 v68 v69 v70 v71 v72 v73 v74 v75 v76 v77 v78 v79 v80 v81 v82 v83 v84 v85 v86 v87 v88 v89 v90 v91 v92 v93 v94 v95 v96 v97 v98 v99 v100 v101 v102 v103 v104 v105 v106 v107 v108 v109 v110 v111 v112 v113 v114 v115 v116 v117 v118 v119 v120 v121 v122 v123 v124 v125 v126 v127 v128 v129 v130 v131 v132 v133 v134 v135 v136 v137 v138 v139 v140 v141 v142 v143 v144 v145 v146 v147 v148 v149 v150 v151 v152 v153 v154 v155 v156 v157 v158 v159 v160 v161 v162 v163 v164 v165 v166 v167 v168 v169 v170 v171 v172 v173 v174 v175 v176 v177 v178 v179 v180 v181 v182 v183 v184 v185 v186 v187 v188 v189 v190 v191 v192 v193 v194 v195 v196 v197 v198 v199 v200 v201 v202 v203 => field_tests w wc 23 gX gY gO gV g g' X1 X2 Y1 Y2 O1 O2 V1 V2 Z1 Z2 T1 T2 bX bY bU bV bZ bT v0 v1 v2 v3 v4 v5 v7 v8 v15 v16 v17 v18 v19 v20 v21 v22 v23 v24 v25 v26 v27 v28 v29 v30 v31 v32 v33 v34 v35 v36 v37 v38 v39 v40 v41 v42 v43 v44 v45 v46 v47 v48 v49 v50 v51 v52 v53 v54 v55 v56 v57 v58 v59 v60 v61 v62 v63 v64 v65 v66 v67 v68 v69 v70 v71 v72 v73 v74 v75 v76 v77 v78 v79 v80 v81 v82 v83 v84 v85 v86 v87 v88 v89 v90 v91 v92 v93 v94 v95 v96 v97 v98 v99 v100 v101 v102 v103 v104 v105 v106 v107 v108 v109 v110 v111 v112 v113 v114 v115 v116 v117 v118 v119 v120 v121 v122 v123 v124 v125 v126 v127 v128 v129 v130 v131 v132 v133 v134 v135 v136 v137 v138 v139 v140 v141 v142 v143 v144 v145 v146 v147 v148 v149 v150 v151 v152 v153 v154 v155 v156 v157 v158 v159 v160 v161 v162 v163 v164 v165 v166 v167 v168 v169 v170 v171 v172 v173 v174 v175 v176 v177 v178 v179 v180 v181 v182 v183 v184 v185 v186 v187 v188 v189 v190 v191 v192 v193 v194 v195 v196 v197 v198 v199 v200 v201 v202 v203 hbe hX IX.out hY IY.out hO IU.out hV IV.out hZ IZ.out hT IT.out EX.out EU.out EZ.out
        exact h _ _ _ _ _ _ _ _ _ _ _ _ _ _ _ _ _ _ _ _ _ _ _ _ _ _ _ _ _ _ _ _ _ _ _ _ _ _ _ _ _ _ _ _ _ _ _ _ _ _ _ _ _ _ _ _ _ _ _ _ _ _ _ _ _ _ _ _ _ _ _ _ _ _ _ _ _ _ _ _ _ _ _ _ _ _ _ _ _ _ _ _ _ _ _ _ _ _ _ _ _ _ _ _ _ _ _ _ _ _ _ _ _ _ _ _ _ _ _ _ _ _ _ _ _ _ _ _ _ _ _ _ _ _ _ _ _ _ _ _ _ _ _ _ _ _ _ _ _ _ _ _ _ _ _ _ _ _ _ _ _ _ _ _ _ _ _ _ _ _ _ _ _ _ _ _ _ _ _ _ _ _ _ _ _ _ _ _ _ _ _ _ _ _ _ _ _

end Go.Proofs.YtgjhaanpkfheeaaDoor
