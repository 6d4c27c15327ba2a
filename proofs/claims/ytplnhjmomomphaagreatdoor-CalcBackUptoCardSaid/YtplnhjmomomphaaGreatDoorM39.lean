/- Of my texts: Of. -/
import Derived.Test.YtplnhjmomomphaaGreatDoorM36
import Derived.Test.YtplnhjmomomphaaGreatDoorM38
import Derived.OwnWalk
namespace Go.Proofs.YtplnhjmomomphaaGreatDoor
set_option linter.unusedVariables false
set_option linter.unusedSimpArgs false
open Go.RowKit Go.Lib
theorem conv_bytes (m : List UInt8) (w : World) (hm : m.length ≤ maxLen) : ∃ (cap : Nat) (w1 : World), (convert 9 48 (.string ⟨m.toArray⟩)).run Tryz.prog w = .ok (.slice (some ⟨w.heap.size, 0, none⟩) m.length cap) w1 ∧ Below w.heap.size w w1 ∧
 Sl w1 (some ⟨w.heap.size, 0, none⟩) m.length cap w.heap.size 0 1 (bytesV m) := by
 have h := run_bytes_of_string (P := Tryz.prog) w 9 48 5 ⟨m.toArray⟩ Tryz.underlying9 Tryz.underlying48 Tryz.underlying5
 have hge := grownCap_ge w m.length 0 5
 have hcm := grownCap_le_maxLen w m.length 0 5 hm
 refine ⟨_, _, h, ((Below.refl _ _).drew.alloc (Nat.le_refl _) _), by simp [bytesV], hge, hcm, fun _ => ⟨rfl, by simp⟩, fun i v hv => ?_⟩
 have hi : i < m.length := by have := (List.getElem?_eq_some_iff.1 hv).1; simpa [bytesV] using this
 rw [bytesV_at hi] at hv
 obtain rfl := Option.some.inj hv
 rw [Nat.zero_add, cell_of_row _ w.heap.size i _ _ _ (heap_alloc_new w.drew _)]
 exact bytesRow_at ⟨m.toArray⟩ _ i hi
set_option maxHeartbeats 4000000 in
theorem ofs_any (m : List UInt8) (w : World) (hm : m.length ≤ 4294967296) (hK : Kd w) (h64 : ∀ t ∈ bytesF m, Tk64 t) (hl : (bytesF m).length ≤ 274877906944) :
 Calls Tryz.prog 11 #[.string ⟨m.toArray⟩] w fun e w' => (∃ v, e = .returned v ∧ ∃ h, isVs (· < w.heap.size) h (valuesF (bytesF m)) v w') ∧ Below w.heap.size w w' := by
 obtain ⟨cap, w1, hrun, hb1, hsl⟩ := conv_bytes m w (by unfold maxLen; omega)
 have HB := Lib.hid (bytes_any m _ cap w.heap.size 0 w1 hsl (hK.below hb1) hm)
 have HV := Lib.hid (fun oa c b o w hs => values_any (bytesF m) oa c b o w hs h64 hl)
 have HB1 := Lib.hid hb1
 generalize bytesF m = T at *
 clear h64 hl hb1 hsl hK
 have hm63 : m.length ≤ 9223372036854775807 := by omega
 go_enter Tryz.func11, Tryz.ntmps11
 go_wp2_with fail
 ((with_reducible refine HB.out.mono ?_); rintro e w2 ⟨v, rfl, hR⟩)
 obtain ⟨ya, yc, yb, rfl, hsl, _⟩ := hR.sl
 have HB2 := Lib.hid (below_far HB1.out (grownBy_of_below hR.below none) (fun _ e => by cases e))
 have HV2 := Lib.hid (HV.out ya yc yb 0 w2 hsl)
 clear hR hsl HB HV
 go_wp2_with fail
 ((with_reducible refine HV2.out.mono ?_); rintro e w3 ⟨⟨v, rfl, h, hv⟩, hb3⟩)
 have HBF := Lib.hid (below_far HB2.out (grownBy_of_below hb3 none) (fun _ e => by cases e))
 have HVV := Lib.hid (hv.anti (A' := (· < w.heap.size)) fun b hb => Or.inl (by have := HB2.out.size; have hb : b < w.heap.size := hb; show b < w2.heap.size; omega))
 clear hv hb3 HV2
 go_wp2_with fail
 go_ret
 exact ⟨⟨_, rfl, h, HVV.out⟩, HBF.out⟩
/-- what every program must know -/
theorem calc_known (n : Nat) : parseF wholeP (n + 2) calcV = (some (.mk 2 0 0 0 [.mk 1 1 1 1 [], .mk 1 2 1 2 []]), 0) := by
 have c1 : cleanR (1, 1) = (1, 1) := by decide
 have c2 : cleanR (2, 1) = (2, 1) := by decide
 have h1 : mayV 64 calcV = true := by
  unfold calcV
  simp [mayV, closeF]
 have ht : trimV calcV = calcV := by rfl
 rw [parseF, if_neg (by rw [h1]; decide), ht]
 have u1 : unitF [112, 120] = 1 := by decide
 have u2 : unitF [101, 109] = 2 := by decide
 have e1 : opF wholeP (n + 1) (.mk ⟨12, [112, 120], (1, 1), true, false⟩ []) = some (.mk 1 1 1 1 []) := by
  simp [opF, exprF, u1, numE, c1]
 have e2 : opF wholeP (n + 1) (.mk ⟨12, [101, 109], (2, 1), true, false⟩ []) = some (.mk 1 2 1 2 []) := by
  simp [opF, exprF, u2, numE, c2]
 simp only [calcV, exF]
 have hl : lowS [99, 97, 108, 99] = calcS := by decide
 rw [exprF, if_neg (by decide), if_neg (by decide), if_pos rfl, if_pos hl]
 generalize opF wholeP (n + 1) = f at *
 have hw : wholeP f [.mk ⟨12, [112, 120], (1, 1), true, false⟩ [], .mk ⟨13, [], (0, 0), false, false⟩ [], .mk ⟨9, [43], (0, 0), false, false⟩ [], .mk ⟨13, [], (0, 0), false, false⟩ [], .mk ⟨12, [101, 109], (2, 1), true, false⟩ []] = some (.mk 2 0 0 0 [.mk 1 1 1 1 [], .mk 1 2 1 2 []]) := by
  simp [wholeP, trimV, frontV, spV, sumP, prodP, opAt, restP, signP, blankP, plusS, minusS, starS, slashS, single, e1, e2]
 rw [hw]
theorem two_of {α : Type} {l : List α} (h : l.length = 2) : ∃ a b, l = [a, b] := by
 match l, h with
 | [a, b], _ => exact ⟨a, b, rfl⟩
theorem calcV_one {l : List Vl} (hc : l.map Vl.c = calcV) : ∃ t oa b o c kids, l = [.mk t oa b o c kids] ∧ kids ≠ [] := by
 have h1 := congrArg List.length hc
 rw [List.length_map] at h1
 obtain ⟨x, rfl⟩ := List.length_eq_one_iff.1 (h1.trans rfl)
 obtain ⟨t, oa, b, o, c, kids⟩ := x
 refine ⟨t, oa, b, o, c, kids, rfl, ?_⟩
 rintro rfl
 unfold calcV at hc
 rw [List.map_cons, List.map_nil, Vl.c_mk] at hc
 injection hc with hc _
 injection hc with _ hc
 cases hc
theorem calc_high {h : Nat} {w : World} {oa : Option Addr} {cap b o : Nat} {l : List Vl} (hs : VsIn w h oa cap b o l) (hc : l.map Vl.c = calcV) : ∃ n, h = n + 2 := by
 obtain ⟨t, oa', b', o', c', kids, rfl, hk⟩ := calcV_one hc
 have h0 := hs.each 0 _ rfl
 obtain _ | h := h
 · exact h0.elim
 obtain _ | h := h
 · have hk2 := h0.kids
   match kids, hk with
   | [], hk => exact absurd rfl hk
   | x :: r, _ => exact (hk2.each 0 x rfl).elim
 · exact ⟨h, rfl⟩
theorem calc_64 : ∀ t ∈ bytesF calcT, Tk64 t := by
 rw [calc_tokens]
 intro t ht
 simp only [List.mem_cons, List.not_mem_nil, or_false] at ht
 rcases ht with rfl | rfl | rfl | rfl | rfl | rfl | rfl <;> (unfold Tk64 I64 Is64; decide)
set_option maxRecDepth 20000 in
set_option maxHeartbeats 4000000 in
theorem awakeK_any (w : World) (hK : Kd w) : Calls Tryz.prog 7 #[] w fun e w' => e = .returned (.bool true) ∧ Below w.heap.size w w' := by
 have hof := ofs_any calcT w (by decide) hK calc_64 (by rw [calc_tokens]; decide)
 rw [calc_values, show calcT.toArray = #[99, 97, 108, 99, 40, 49, 112, 120, 32, 43, 32, 50, 101, 109, 41] from rfl] at hof
 have HOF := Lib.hid hof
 clear hof hK
 go_enter Tryz.func7, Tryz.ntmps7
 go_wp2_with fail
 ((with_reducible refine HOF.out.mono ?_); rintro e w2 ⟨⟨v, rfl, h, oa, cap, b, o, l, rfl, hc, hs⟩, hb2⟩)
 obtain ⟨n, rfl⟩ := calc_high hs.here hc
 have hp := cparse_any (n + 2) l oa cap b o w2 hs.here
 rw [hc, calc_known] at hp
 have HP := Lib.hid hp
 have HB2 := Lib.hid hb2
 clear hp hs hc hb2 HOF
 go_wp2_with fail
 ((with_reducible refine HP.out.mono ?_); rintro e w3 ⟨⟨ev, rfl, x, hh, hxv, hxc, hxs⟩, hb3⟩)
 obtain ⟨k, n', d, u, xoa, xb, xo, xcap, kids⟩ := x
 rw [Ex.c_mk] at hxc
 injection hxc with ek en ed eu el
 obtain _ | hh := hh
 · exact hxs.here.elim
 obtain ⟨y1, y2, y3, y4, y5, y6, y7, y8⟩ := hxs.here
 have hkl := congrArg List.length el
 rw [List.length_map] at hkl
 obtain ⟨p, q, rfl⟩ := two_of (hkl.trans rfl)
 rw [List.map_cons, List.map_cons, List.map_nil] at el
 injection el with _ el
 injection el with el _
 obtain ⟨y71, hbl⟩ := y7 (by simp)
 obtain ⟨qk, qn, qd, qu, qoa, qb, qo, qcap, qkids⟩ := q
 rw [Ex.c_mk] at el
 injection el with _ _ _ equ _
 have f3 := (y8 1 _ rfl).1 3 _ rfl
 subst ek en ed eu equ y71 hxv
 simp only [xv_mk, List.length_cons, List.length_nil, Nat.zero_add, Nat.reduceAdd] at y4 ⊢
 have HB3 := Lib.hid (below_far HB2.out (grownBy_of_below hb3 none) (fun _ e => by cases e))
 have F3 := Lib.hid f3
 clear hxs y1 y2 y3 y5 y6 y7 y8 hb3 HP HB2
 go_upto_region 2 with fail
 have h9 := Blk.new w3 27 #[.int .i64 2, .int .i64 0, .int .i64 0, .int .i64 0, .slice (some ⟨xb, xo, none⟩) 2 xcap]
 have hb4 := below_box w3 (.cells #[.int .i64 2, .int .i64 0, .int .i64 0, .int .i64 0, .slice (some ⟨xb, xo, none⟩) 2 xcap] 27)
 have g3 := (hb4.cell (p := ⟨xb, xo + 1 * 5 + 3, none⟩) hbl).trans F3.out
 have HB4 := Lib.hid (below_far HB3.out (grownBy_of_below hb4 none) (fun _ e => by cases e))
 clear hb4 F3 HB3
 generalize w3.heap.size = g9 at *
 generalize w3.alloc _ = w4 at *
 have cg0 : w4.cell? ⟨g9, 0, none⟩ = some (.int .i64 2) := (h9).cell 0
 have fcg0 := (h9).frozen 0
 have cg1 : w4.cell? ⟨g9, 1, none⟩ = some (.int .i64 0) := (h9).cell 1
 have fcg1 := (h9).frozen 1
 have cg2 : w4.cell? ⟨g9, 2, none⟩ = some (.int .i64 0) := (h9).cell 2
 have fcg2 := (h9).frozen 2
 have cg3 : w4.cell? ⟨g9, 3, none⟩ = some (.int .i64 0) := (h9).cell 3
 have fcg3 := (h9).frozen 3
 have cg4 : w4.cell? ⟨g9, 4, none⟩ = some (.slice (some ⟨xb, xo, none⟩) 2 xcap) := (h9).cell 4
 have fcg4 := (h9).frozen 4
 have lcg := (h9).lt
 clear h9
 go_wp2_with fail
 go_ret
 exact ⟨ret_bool rfl, HB4.out⟩
end Go.Proofs.YtplnhjmomomphaaGreatDoor
