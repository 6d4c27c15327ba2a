/- Of my texts: Part. -/
import Derived.Test.YtgjhaanpkfheeaaM24
import Derived.Test.YtgjhaanpkfheeaaM28
namespace Go.Proofs.Ytgjhaanpkfheeaa
set_option linter.unusedVariables false
set_option linter.unusedSimpArgs false
open Go.RowKit

theorem may_solid (n : Nat) : ∀ l : List Vt, mayV n l = true → mayV n (solidV l) = true
  | [], h => h
  | .mk t k :: r, h => by
    have ih := may_solid n r (may_mk h).2.2.2.2
    unfold solidV at ih ⊢
    rw [List.filter_cons]
    split
    · rw [mayV_cons] at h ⊢
      simp only [Bool.and_eq_true] at h ⊢
      exact ⟨h.1, ih⟩
    · exact ih
theorem sz_solid : ∀ l : List Vt, szV (solidV l) ≤ szV l
  | [] => Nat.le_refl _
  | .mk t k :: r => by
    have ih := sz_solid r
    unfold solidV at ih ⊢
    rw [List.filter_cons]
    split
    · rw [szV_cons, szV_cons]
      omega
    · rw [szV_cons]
      omega
def zeroQt : Qt := .mk 0 [] zeroQ
/-- a part, of values so high -/
def pQ (bq : Bool) (h : Nat) : Vt → Qt := partQ (leafF bq) (wholeQ readQ (leafF bq) (h - 1))
theorem whole_pQ (bq : Bool) (h : Nat) (l : List Vt) (h0 : h = 0 → l = []) : wholeQ readQ (leafF bq) h l = readQ (pQ bq h) (solidV l) := by
  cases h with
  | zero => rw [h0 rfl]; rfl
  | succ h => rfl

def barEnd : Ending := .panicked [barredV]

/-- all of some values, read as a condition -/
def QWholeAt (bq : Bool) (h : Nat) : Prop := ∀ (l : List Vl) (oa : Option Addr) (cap bb o gR : Nat) (w : World), Blk w gR 97 #[leafV bq] → VsIn w h oa cap bb o l → (∃ n, mayV n (l.map Vl.c) = true) → szV (l.map Vl.c) ≤ 1073741824 →
  Calls Try.prog 91 #[.pointer (some ⟨gR, 0, none⟩), .slice oa l.length cap] w fun e w' => ∃ (r : Value) (code : Int), e = .returned (.tuple #[r, .int .i64 code]) ∧ (code = if (wholeQ readQ (leafF bq) h (l.map Vl.c)).isSome then 0 else 3) ∧ isQd (· < w.heap.size) ((wholeQ readQ (leafF bq) h (l.map Vl.c)).getD zeroQt) r w' ∧ Below w.heap.size w w'
/-- what comes of a part -/
def partEnd (B : Nat) (f : Vt → Qt) (x : Option Vt) (e : Ending) (w : World) : Prop := match x with
  | some v => if opensV v then ∃ r, e = .returned r ∧ isQd (· < B) (f v) r w else e = barEnd
  | none => e = barEnd
def PartAt (bq : Bool) (h : Nat) : Prop := ∀ (l : List Vl) (oa : Option Addr) (cap bb o gR i : Nat) (w : World), Blk w gR 97 #[leafV bq] → VsIn w h oa cap bb o l → (∃ n, mayV n (l.map Vl.c) = true) → szV (l.map Vl.c) ≤ 1073741824 → i ≤ 4611686018427387904 →
  Calls Try.prog 126 #[.pointer (some ⟨gR, 0, none⟩), .slice oa l.length cap, .int .i64 (i : Int)] w fun e w' => partEnd w.heap.size (pQ bq h) ((l.map Vl.c)[i]?) e w' ∧ Below w.heap.size w w'

theorem partEnd_some {B : Nat} {f : Vt → Qt} {v : Vt} {e : Ending} {w : World} (h : opensV v = true) : partEnd B f (some v) e w = ∃ r, e = .returned r ∧ isQd (· < B) (f v) r w := by
  show (if opensV v = true then (∃ r, e = .returned r ∧ isQd (· < B) (f v) r w) else e = barEnd) = _
  rw [if_pos h]
theorem partEnd_not {B : Nat} {f : Vt → Qt} {v : Vt} {e : Ending} {w : World} (h : opensV v = false) : partEnd B f (some v) e w = (e = barEnd) := by
  show (if opensV v = true then (∃ r, e = .returned r ∧ isQd (· < B) (f v) r w) else e = barEnd) = _
  rw [if_neg (by rw [h]; simp)]
theorem leafF_64 {bq : Bool} {v : Vt} {L : Int × Int × List UInt8} (h : leafF bq v = some L) : I64 L.1 ∧ I64 L.2.1 := by
  cases bq with
  | false => cases h
  | true =>
    obtain ⟨t, k⟩ := v
    have h : (if t.kind = 21 then (identOf k).map fun s => ((3, 0, s) : Int × Int × List UInt8) else if t.kind = 2 ∧ t.text = [111, 102] then some (1, 2, []) else none) = some L := h
    split at h
    · obtain ⟨s, _, rfl⟩ := Option.map_eq_some_iff.1 h
      exact ⟨show I64 3 by unfold I64; decide, show I64 0 by unfold I64; decide⟩
    · split at h
      · obtain rfl := Option.some.inj h
        exact ⟨by unfold I64; decide, by unfold I64; decide⟩
      · cases h
theorem pQ_leaf {bq : Bool} {h : Nat} {v : Vt} {L : Int × Int × List UInt8} (hl : leafF bq v = some L) : pQ bq h v = leafQ L := by
  unfold pQ partQ
  rw [hl]
theorem pQ_par {bq : Bool} {h : Nat} {tt : List UInt8} {n : Int × Int} {ti tid : Bool} {k : List Vt} (hl : leafF bq (.mk ⟨21, tt, n, ti, tid⟩ k) = none) : pQ bq (h + 1) (.mk ⟨21, tt, n, ti, tid⟩ k) = (wholeQ readQ (leafF bq) h k).getD (leafQ zeroQ) := by
  unfold pQ partQ
  rw [hl]
  rfl
theorem pQ_fun {bq : Bool} {h : Nat} {tt : List UInt8} {n : Int × Int} {ti tid : Bool} {k : List Vt} (hl : leafF bq (.mk ⟨2, tt, n, ti, tid⟩ k) = none) : pQ bq (h + 1) (.mk ⟨2, tt, n, ti, tid⟩ k) = leafQ zeroQ := by
  unfold pQ partQ
  rw [hl]
  rfl

set_option maxRecDepth 20000 in
set_option maxHeartbeats 16000000 in
theorem part_step (bq : Bool) (h : Nat) (hW : ∀ h', h = h' + 1 → QWholeAt bq h') : PartAt bq h := by
  intro l oa cap bb o gR i w hR hs hm hz hi
  obtain ⟨N, hN⟩ : ∃ N, l.length = N := ⟨_, rfl⟩
  obtain ⟨Y, hY⟩ : ∃ Y, (l.map Vl.c)[i]? = Y := ⟨_, rfl⟩
  rw [hN, hY]
  have hb := below_box w (.cells zero14 49)
  have h1 := Blk.new w 49 zero14
  have hs1 : (w.alloc (.cells zero14 49)).heap.size = w.heap.size + 1 := by simp
  have H := Lib.hid (And.intro h1 (And.intro hb (And.intro (hR.below hb hR.lt) (And.intro (hs.below hb) hs1))))
  have hRg := hR.lt
  have hsm := hs.small
  have hcl := hs.sl.le
  have hcm := hs.sl.max
  unfold maxLen at hcm
  rw [hN] at hsm hcl
  have HM := Lib.hid (And.intro hm hz)
  have HN := Lib.hid hN
  have HY := Lib.hid hY
  have HW := Lib.hid hW
  clear h1 hb hs1 hR hs hm hz hN hY hW
  simp only [zero14] at H
  go_enter Try.func126, Try.ntmps126
  go_upto_region 1 with fail
  obtain ⟨g, hg⟩ : ∃ g, w.heap.size = g := ⟨_, rfl⟩
  rw [hg] at H hRg
  simp only [hg]
  have HG := Lib.hid hg
  clear hg
  generalize World.alloc w _ = wa at *
  obtain ⟨h1, hb, hR, hs, hs1⟩ := H.out
  have ca0 : wa.cell? ⟨g, 0, none⟩ = some (.int .i64 0) := (h1).cell 0
  have fca0 := (h1).frozen 0
  have ca1 : wa.cell? ⟨g, 1, none⟩ = some (.slice none 0 0) := (h1).cell 1
  have fca1 := (h1).frozen 1
  have ca2 : wa.cell? ⟨g, 2, none⟩ = some (.int .i64 0) := (h1).cell 2
  have fca2 := (h1).frozen 2
  have ca3 : wa.cell? ⟨g, 3, none⟩ = some (.int .i64 0) := (h1).cell 3
  have fca3 := (h1).frozen 3
  have ca4 : wa.cell? ⟨g, 4, none⟩ = some (.string ⟨#[]⟩) := (h1).cell 4
  have fca4 := (h1).frozen 4
  have ca5 : wa.cell? ⟨g, 5, none⟩ = some (.int .i64 0) := (h1).cell 5
  have fca5 := (h1).frozen 5
  have ca6 : wa.cell? ⟨g, 6, none⟩ = some (.int .i64 0) := (h1).cell 6
  have fca6 := (h1).frozen 6
  have ca7 : wa.cell? ⟨g, 7, none⟩ = some (.int .i64 0) := (h1).cell 7
  have fca7 := (h1).frozen 7
  have ca8 : wa.cell? ⟨g, 8, none⟩ = some (.int .i64 0) := (h1).cell 8
  have fca8 := (h1).frozen 8
  have ca9 : wa.cell? ⟨g, 9, none⟩ = some (.int .i64 0) := (h1).cell 9
  have fca9 := (h1).frozen 9
  have ca10 : wa.cell? ⟨g, 10, none⟩ = some (.slice none 0 0) := (h1).cell 10
  have fca10 := (h1).frozen 10
  have ca11 : wa.cell? ⟨g, 11, none⟩ = some (.string ⟨#[]⟩) := (h1).cell 11
  have fca11 := (h1).frozen 11
  have ca12 : wa.cell? ⟨g, 12, none⟩ = some (.string ⟨#[]⟩) := (h1).cell 12
  have fca12 := (h1).frozen 12
  have ca13 : wa.cell? ⟨g, 13, none⟩ = some (.bool false) := (h1).cell 13
  have fca13 := (h1).frozen 13
  have lca := (h1).lt
  clear h1 hb hR hs
  by_cases hiN : i < N
  · have gi : decide ((N : Int) ≤ (i : Int)) = false := by simp; omega
    have gin : decide (N ≤ i) = false := by simp; omega
    have ij0 : (0 : Int) ≤ (i : Int) := Int.natCast_nonneg _
    have ijN : (i : Int) < (N : Int) := by omega
    have hil : i < l.length := by rw [HN.out]; exact hiN
    have hli : l[i]? = some l[i] := List.getElem?_eq_getElem hil
    obtain ⟨x, hx⟩ : ∃ x, l[i] = x := ⟨_, rfl⟩
    rw [hx] at hli
    have hY1 : Y = some x.c := by rw [← HY.out, List.getElem?_map, hli]; rfl
    have hvs := H.out.2.2.2.1
    obtain ⟨rfl, hbl⟩ := hvs.sl.lies (by omega)
    have hvx := hvs.each i x hli
    obtain ⟨h, rfl⟩ : ∃ h', h = h' + 1 := by
      cases h with
      | zero => exact hvx.elim
      | succ h => exact ⟨h, rfl⟩
    obtain ⟨t, koa, kb, ko, kcap, kids⟩ := x
    have hmem : (Vl.mk t koa kb ko kcap kids).c ∈ l.map Vl.c := List.mem_map_of_mem (List.mem_of_getElem? hli)
    rw [Vl.c_mk] at hmem
    obtain ⟨⟨nm, hm⟩, hz⟩ := HM.out
    have hmk := may_kid hm _ _ hmem
    have hzk := sz_kid _ _ hmem
    obtain ⟨K, hK⟩ : ∃ K, kids.length = K := ⟨_, rfl⟩
    have f0 := hvs.cell hli (j := 0) rfl
    have f1 := hvs.cell hli (j := 1) rfl
    have f2 := hvs.cell hli (j := 2) rfl
    have f3 := hvs.cell hli (j := 3) rfl
    have f4 := hvs.cell hli (j := 4) rfl
    have f5 := hvs.cell hli (j := 5) rfl
    have f6 := hvs.cell hli (j := 6) rfl
    rw [Nat.add_zero] at f0
    rw [hK] at f6
    obtain ⟨tk, tt, ⟨tn, td⟩, ti, tid⟩ := t
    have HKD := Lib.hid (And.intro hvx.kids (And.intro hmk (And.intro (show szV (kids.map Vl.c) ≤ 1073741824 by omega) hK)))
    rw [Vl.c_mk] at hY1
    subst hY1
    have HWP := Lib.hid (HW.out h rfl)
    clear hvs hli hil hx hvx hmem hm hz hmk hzk hK HY HM HW
    by_cases hop : tk = 21 ∨ tk = 2
    · have hopv : opensV (.mk ⟨tk, tt, (tn, td), ti, tid⟩ (kids.map Vl.c)) = true := by
        rcases hop with h | h <;> subst h <;> rfl
      rcases hop with rfl | rfl
      · skip
        go_upto_region 4 with fail
        have hb2 := below_box wa (.cells #[.int .i64 21, .string ⟨tt.toArray⟩, .int .i64 tn, .int .i64 td, .bool ti, .bool tid, .slice koa K kcap] 74)
        have h7 := Blk.new wa 74 #[.int .i64 21, .string ⟨tt.toArray⟩, .int .i64 tn, .int .i64 td, .bool ti, .bool tid, .slice koa K kcap]
        rw [hs1] at h7
        have HH := Lib.hid (And.intro (H.out.1.below hb2 H.out.1.lt) (And.intro (H.out.2.1.trans (hb2.mono (by omega))) (And.intro (H.out.2.2.1.below hb2 H.out.2.2.1.lt) (And.intro (HKD.out.1.below hb2) h7))))
        clear hb2 h7 ca0 fca0 ca1 fca1 ca2 fca2 ca3 fca3 ca4 fca4 ca5 fca5 ca6 fca6 ca7 fca7 ca8 fca8 ca9 fca9 ca10 fca10 ca11 fca11 ca12 fca12 ca13 fca13 f0 f1 f2 f3 f4 f5 f6 H
        generalize World.alloc wa _ = wb at *
        have ht := ktold_any bq gR h 21 tt tn td ti tid koa kcap kb ko kids wb HH.out.2.2.1 HH.out.2.2.2.1 HKD.out.2.1 HKD.out.2.2.1
        rw [HKD.out.2.2.2] at ht
        obtain ⟨X, hX⟩ : ∃ X, leafF bq (.mk ⟨21, tt, (tn, td), ti, tid⟩ (kids.map Vl.c)) = X := ⟨_, rfl⟩
        rw [hX] at ht
        obtain ⟨k, a, b, s, ok, hXp, hX1, hX0⟩ := told_parts X
        rw [hXp] at ht
        have HT := Lib.hid ht
        have h7 := HH.out.2.2.2.2
        have cv0 : wb.cell? ⟨g + 1, 0, none⟩ = some (.int .i64 21) := (h7).cell 0
        have fcv0 := (h7).frozen 0
        have cv1 : wb.cell? ⟨g + 1, 1, none⟩ = some (.string ⟨tt.toArray⟩) := (h7).cell 1
        have fcv1 := (h7).frozen 1
        have cv2 : wb.cell? ⟨g + 1, 2, none⟩ = some (.int .i64 tn) := (h7).cell 2
        have fcv2 := (h7).frozen 2
        have cv3 : wb.cell? ⟨g + 1, 3, none⟩ = some (.int .i64 td) := (h7).cell 3
        have fcv3 := (h7).frozen 3
        have cv4 : wb.cell? ⟨g + 1, 4, none⟩ = some (.bool ti) := (h7).cell 4
        have fcv4 := (h7).frozen 4
        have cv5 : wb.cell? ⟨g + 1, 5, none⟩ = some (.bool tid) := (h7).cell 5
        have fcv5 := (h7).frozen 5
        have cv6 : wb.cell? ⟨g + 1, 6, none⟩ = some (.slice koa K kcap) := (h7).cell 6
        have fcv6 := (h7).frozen 6
        have lcv := (h7).lt
        clear h7 ht
        go_wp2_with fail
        ((with_reducible refine (HT.out).mono ?_); rintro e w' ⟨rfl, hbw⟩)
        obtain ⟨m, rfl⟩ := grow_mk hbw
        clear hbw
        have HI := Lib.hid (And.intro (HH.out.1.grow m) (And.intro (HH.out.2.1.trans ((grow_below m).mono (by omega))) (And.intro (HH.out.2.2.1.grow m) (And.intro (HH.out.2.2.2.1.below (grow_below m)) (HH.out.2.2.2.2.grow m)))))
        clear HH HT lcv cv0 cv1 cv2 cv3 cv4 cv5 cv6 fcv0 fcv1 fcv2 fcv3 fcv4 fcv5 fcv6
        generalize grow wb m = wc at *
        go_upto_region 5 with fail
        have hb3 := below_box wc (.cells #[.int .i64 k, .slice none 0 0, .int .i64 a, .int .i64 b, .string s, .int .i64 0, .int .i64 0, .int .i64 0, .int .i64 0, .int .i64 0, .slice none 0 0, .string ⟨#[]⟩, .string ⟨#[]⟩, .bool false] 49)
        have HJ := Lib.hid (And.intro (HI.out.1.below hb3 HI.out.1.lt) (And.intro (HI.out.2.1.trans (hb3.mono (by have := HI.out.1.lt; omega))) (And.intro (HI.out.2.2.1.below hb3 HI.out.2.2.1.lt) (And.intro (HI.out.2.2.2.1.below hb3) (And.intro (HI.out.2.2.2.2.below hb3 HI.out.2.2.2.2.lt) (Blk.new wc 49 #[.int .i64 k, .slice none 0 0, .int .i64 a, .int .i64 b, .string s, .int .i64 0, .int .i64 0, .int .i64 0, .int .i64 0, .int .i64 0, .slice none 0 0, .string ⟨#[]⟩, .string ⟨#[]⟩, .bool false]))))))
        clear hb3 HI
        obtain ⟨g8, hg8⟩ : ∃ g8, wc.heap.size = g8 := ⟨_, rfl⟩
        rw [hg8] at HJ
        simp only [hg8]
        clear hg8
        generalize World.alloc wc _ = wd at *
        obtain ⟨h1, hb, hR, hvs, h7, h8⟩ := HJ.out
        have ca0 : wd.cell? ⟨g, 0, none⟩ = some (.int .i64 0) := (h1).cell 0
        have fca0 := (h1).frozen 0
        have ca1 : wd.cell? ⟨g, 1, none⟩ = some (.slice none 0 0) := (h1).cell 1
        have fca1 := (h1).frozen 1
        have ca2 : wd.cell? ⟨g, 2, none⟩ = some (.int .i64 0) := (h1).cell 2
        have fca2 := (h1).frozen 2
        have ca3 : wd.cell? ⟨g, 3, none⟩ = some (.int .i64 0) := (h1).cell 3
        have fca3 := (h1).frozen 3
        have ca4 : wd.cell? ⟨g, 4, none⟩ = some (.string ⟨#[]⟩) := (h1).cell 4
        have fca4 := (h1).frozen 4
        have ca5 : wd.cell? ⟨g, 5, none⟩ = some (.int .i64 0) := (h1).cell 5
        have fca5 := (h1).frozen 5
        have ca6 : wd.cell? ⟨g, 6, none⟩ = some (.int .i64 0) := (h1).cell 6
        have fca6 := (h1).frozen 6
        have ca7 : wd.cell? ⟨g, 7, none⟩ = some (.int .i64 0) := (h1).cell 7
        have fca7 := (h1).frozen 7
        have ca8 : wd.cell? ⟨g, 8, none⟩ = some (.int .i64 0) := (h1).cell 8
        have fca8 := (h1).frozen 8
        have ca9 : wd.cell? ⟨g, 9, none⟩ = some (.int .i64 0) := (h1).cell 9
        have fca9 := (h1).frozen 9
        have ca10 : wd.cell? ⟨g, 10, none⟩ = some (.slice none 0 0) := (h1).cell 10
        have fca10 := (h1).frozen 10
        have ca11 : wd.cell? ⟨g, 11, none⟩ = some (.string ⟨#[]⟩) := (h1).cell 11
        have fca11 := (h1).frozen 11
        have ca12 : wd.cell? ⟨g, 12, none⟩ = some (.string ⟨#[]⟩) := (h1).cell 12
        have fca12 := (h1).frozen 12
        have ca13 : wd.cell? ⟨g, 13, none⟩ = some (.bool false) := (h1).cell 13
        have fca13 := (h1).frozen 13
        have lca := (h1).lt
        have cv0 : wd.cell? ⟨g + 1, 0, none⟩ = some (.int .i64 21) := (h7).cell 0
        have fcv0 := (h7).frozen 0
        have cv1 : wd.cell? ⟨g + 1, 1, none⟩ = some (.string ⟨tt.toArray⟩) := (h7).cell 1
        have fcv1 := (h7).frozen 1
        have cv2 : wd.cell? ⟨g + 1, 2, none⟩ = some (.int .i64 tn) := (h7).cell 2
        have fcv2 := (h7).frozen 2
        have cv3 : wd.cell? ⟨g + 1, 3, none⟩ = some (.int .i64 td) := (h7).cell 3
        have fcv3 := (h7).frozen 3
        have cv4 : wd.cell? ⟨g + 1, 4, none⟩ = some (.bool ti) := (h7).cell 4
        have fcv4 := (h7).frozen 4
        have cv5 : wd.cell? ⟨g + 1, 5, none⟩ = some (.bool tid) := (h7).cell 5
        have fcv5 := (h7).frozen 5
        have cv6 : wd.cell? ⟨g + 1, 6, none⟩ = some (.slice koa K kcap) := (h7).cell 6
        have fcv6 := (h7).frozen 6
        have lcv := (h7).lt
        have cx0 : wd.cell? ⟨g8, 0, none⟩ = some (.int .i64 k) := (h8).cell 0
        have fcx0 := (h8).frozen 0
        have cx1 : wd.cell? ⟨g8, 1, none⟩ = some (.slice none 0 0) := (h8).cell 1
        have fcx1 := (h8).frozen 1
        have cx2 : wd.cell? ⟨g8, 2, none⟩ = some (.int .i64 a) := (h8).cell 2
        have fcx2 := (h8).frozen 2
        have cx3 : wd.cell? ⟨g8, 3, none⟩ = some (.int .i64 b) := (h8).cell 3
        have fcx3 := (h8).frozen 3
        have cx4 : wd.cell? ⟨g8, 4, none⟩ = some (.string s) := (h8).cell 4
        have fcx4 := (h8).frozen 4
        have cx5 : wd.cell? ⟨g8, 5, none⟩ = some (.int .i64 0) := (h8).cell 5
        have fcx5 := (h8).frozen 5
        have cx6 : wd.cell? ⟨g8, 6, none⟩ = some (.int .i64 0) := (h8).cell 6
        have fcx6 := (h8).frozen 6
        have cx7 : wd.cell? ⟨g8, 7, none⟩ = some (.int .i64 0) := (h8).cell 7
        have fcx7 := (h8).frozen 7
        have cx8 : wd.cell? ⟨g8, 8, none⟩ = some (.int .i64 0) := (h8).cell 8
        have fcx8 := (h8).frozen 8
        have cx9 : wd.cell? ⟨g8, 9, none⟩ = some (.int .i64 0) := (h8).cell 9
        have fcx9 := (h8).frozen 9
        have cx10 : wd.cell? ⟨g8, 10, none⟩ = some (.slice none 0 0) := (h8).cell 10
        have fcx10 := (h8).frozen 10
        have cx11 : wd.cell? ⟨g8, 11, none⟩ = some (.string ⟨#[]⟩) := (h8).cell 11
        have fcx11 := (h8).frozen 11
        have cx12 : wd.cell? ⟨g8, 12, none⟩ = some (.string ⟨#[]⟩) := (h8).cell 12
        have fcx12 := (h8).frozen 12
        have cx13 : wd.cell? ⟨g8, 13, none⟩ = some (.bool false) := (h8).cell 13
        have fcx13 := (h8).frozen 13
        have lcx := (h8).lt
        clear h1 hb hR hvs h7 h8
        cases ok with
        | true =>
          obtain ⟨L, hL, rfl, hL2⟩ := hX1 rfl
          go_wp2_with fail
          have hz := blk_puts [.int .i64 4, .slice none 0 0, .int .i64 a, .int .i64 b, .string s, .int .i64 0, .int .i64 0, .int .i64 0, .int .i64 0, .int .i64 0, .slice none 0 0, .string ⟨#[]⟩, .string ⟨#[]⟩, .bool false] zero14.toList (wd) 0 [] HJ.out.1 rfl rfl
          have hbz := HJ.out.2.1.trans (below_put14 [.int .i64 4, .slice none 0 0, .int .i64 a, .int .i64 b, .string s, .int .i64 0, .int .i64 0, .int .i64 0, .int .i64 0, .int .i64 0, .slice none 0 0, .string ⟨#[]⟩, .string ⟨#[]⟩, .bool false] (wd) g 0)
          have hgz := grownBy_puts [.int .i64 4, .slice none 0 0, .int .i64 a, .int .i64 b, .string s, .int .i64 0, .int .i64 0, .int .i64 0, .int .i64 0, .int .i64 0, .slice none 0 0, .string ⟨#[]⟩, .string ⟨#[]⟩, .bool false] (wd) g 0
          simp only [puts, Nat.zero_add, Nat.reduceAdd] at hz hbz hgz
          refine bodyPost_ret (v := .agg #[.int .i64 4, .slice none 0 0, .int .i64 a, .int .i64 b, .string s, .int .i64 0, .int .i64 0, .int .i64 0, .int .i64 0, .int .i64 0, .slice none 0 0, .string ⟨#[]⟩, .string ⟨#[]⟩, .bool false]) ?_ rfl ?_
          · refine ret_cd Try.results126 ?_ hz rfl
            rfl
          · refine ⟨?_, by rw [HG.out]; exact hbz⟩
            rw [partEnd_some hopv]
            refine ⟨_, rfl, ?_⟩
            rw [pQ_leaf (hX.trans hL)]
            obtain ⟨i1, i2⟩ := leafF_64 (hX.trans hL)
            subst hL2
            exact leaf_qd _ _ i1 i2
        | false =>
          have hX2 := hX0 rfl
          obtain ⟨Y, hY⟩ : ∃ Y, wholeQ readQ (leafF bq) h (kids.map Vl.c) = Y := ⟨_, rfl⟩
          have hc := HWP.out kids koa kcap kb ko gR wd HJ.out.2.2.1 HJ.out.2.2.2.1 HKD.out.2.1 HKD.out.2.2.1
          rw [hY, HKD.out.2.2.2] at hc
          have HC := Lib.hid hc
          clear hc
          go_wp2_with fail
          ((with_reducible refine HC.out.mono ?_); rintro e we ⟨r, code, rfl, hcode, hq, hbe⟩)
          obtain ⟨qk, qa, qn, qc, ⟨q1, q2, q3⟩, rfl⟩ := hq.cells
          have HQ := Lib.hid (And.intro hq hbe)
          have h1 := HJ.out.1.below hbe HJ.out.1.lt
          have HK := Lib.hid (And.intro h1 (HJ.out.2.1.trans (hbe.mono (by omega))))
          have hwd : g + 1 < wd.heap.size := lcv
          have hwe := hbe.size
          clear HC hq hbe h1 ca0 fca0 ca1 fca1 ca2 fca2 ca3 fca3 ca4 fca4 ca5 fca5 ca6 fca6 ca7 fca7 ca8 fca8 ca9 fca9 ca10 fca10 ca11 fca11 ca12 fca12 ca13 fca13 cv0 fcv0 cv1 fcv1 cv2 fcv2 cv3 fcv3 cv4 fcv4 cv5 fcv5 cv6 fcv6 cx0 fcx0 cx1 fcx1 cx2 fcx2 cx3 fcx3 cx4 fcx4 cx5 fcx5 cx6 fcx6 cx7 fcx7 cx8 fcx8 cx9 fcx9 cx10 fcx10 cx11 fcx11 cx12 fcx12 cx13 fcx13
          simp only [qcells]
          go_upto_region 9 with fail
          have hb5 := below_box we (.cells #[.int .i64 qk, .slice qa qn qc, .int .i64 q1, .int .i64 q2, .string ⟨q3.toArray⟩, .int .i64 0, .int .i64 0, .int .i64 0, .int .i64 0, .int .i64 0, .slice none 0 0, .string ⟨#[]⟩, .string ⟨#[]⟩, .bool false] 49)
          have h1 := HK.out.1.below hb5 HK.out.1.lt
          have HL := Lib.hid (And.intro h1 (HK.out.2.trans (hb5.mono (by omega))))
          have HR := Lib.hid (HQ.out.1.below hb5)
          have h10 := Blk.new we 49 #[.int .i64 qk, .slice qa qn qc, .int .i64 q1, .int .i64 q2, .string ⟨q3.toArray⟩, .int .i64 0, .int .i64 0, .int .i64 0, .int .i64 0, .int .i64 0, .slice none 0 0, .string ⟨#[]⟩, .string ⟨#[]⟩, .bool false]
          clear HK HQ hb5
          simp only [qcells] at HR
          generalize we.heap.size = g10 at *
          generalize World.alloc we _ = wf at *
          have ca0 : wf.cell? ⟨g, 0, none⟩ = some (.int .i64 0) := (h1).cell 0
          have fca0 := (h1).frozen 0
          have ca1 : wf.cell? ⟨g, 1, none⟩ = some (.slice none 0 0) := (h1).cell 1
          have fca1 := (h1).frozen 1
          have ca2 : wf.cell? ⟨g, 2, none⟩ = some (.int .i64 0) := (h1).cell 2
          have fca2 := (h1).frozen 2
          have ca3 : wf.cell? ⟨g, 3, none⟩ = some (.int .i64 0) := (h1).cell 3
          have fca3 := (h1).frozen 3
          have ca4 : wf.cell? ⟨g, 4, none⟩ = some (.string ⟨#[]⟩) := (h1).cell 4
          have fca4 := (h1).frozen 4
          have ca5 : wf.cell? ⟨g, 5, none⟩ = some (.int .i64 0) := (h1).cell 5
          have fca5 := (h1).frozen 5
          have ca6 : wf.cell? ⟨g, 6, none⟩ = some (.int .i64 0) := (h1).cell 6
          have fca6 := (h1).frozen 6
          have ca7 : wf.cell? ⟨g, 7, none⟩ = some (.int .i64 0) := (h1).cell 7
          have fca7 := (h1).frozen 7
          have ca8 : wf.cell? ⟨g, 8, none⟩ = some (.int .i64 0) := (h1).cell 8
          have fca8 := (h1).frozen 8
          have ca9 : wf.cell? ⟨g, 9, none⟩ = some (.int .i64 0) := (h1).cell 9
          have fca9 := (h1).frozen 9
          have ca10 : wf.cell? ⟨g, 10, none⟩ = some (.slice none 0 0) := (h1).cell 10
          have fca10 := (h1).frozen 10
          have ca11 : wf.cell? ⟨g, 11, none⟩ = some (.string ⟨#[]⟩) := (h1).cell 11
          have fca11 := (h1).frozen 11
          have ca12 : wf.cell? ⟨g, 12, none⟩ = some (.string ⟨#[]⟩) := (h1).cell 12
          have fca12 := (h1).frozen 12
          have ca13 : wf.cell? ⟨g, 13, none⟩ = some (.bool false) := (h1).cell 13
          have fca13 := (h1).frozen 13
          have lca := (h1).lt
          have cy0 : wf.cell? ⟨g10, 0, none⟩ = some (.int .i64 qk) := (h10).cell 0
          have fcy0 := (h10).frozen 0
          have cy1 : wf.cell? ⟨g10, 1, none⟩ = some (.slice qa qn qc) := (h10).cell 1
          have fcy1 := (h10).frozen 1
          have cy2 : wf.cell? ⟨g10, 2, none⟩ = some (.int .i64 q1) := (h10).cell 2
          have fcy2 := (h10).frozen 2
          have cy3 : wf.cell? ⟨g10, 3, none⟩ = some (.int .i64 q2) := (h10).cell 3
          have fcy3 := (h10).frozen 3
          have cy4 : wf.cell? ⟨g10, 4, none⟩ = some (.string ⟨q3.toArray⟩) := (h10).cell 4
          have fcy4 := (h10).frozen 4
          have cy5 : wf.cell? ⟨g10, 5, none⟩ = some (.int .i64 0) := (h10).cell 5
          have fcy5 := (h10).frozen 5
          have cy6 : wf.cell? ⟨g10, 6, none⟩ = some (.int .i64 0) := (h10).cell 6
          have fcy6 := (h10).frozen 6
          have cy7 : wf.cell? ⟨g10, 7, none⟩ = some (.int .i64 0) := (h10).cell 7
          have fcy7 := (h10).frozen 7
          have cy8 : wf.cell? ⟨g10, 8, none⟩ = some (.int .i64 0) := (h10).cell 8
          have fcy8 := (h10).frozen 8
          have cy9 : wf.cell? ⟨g10, 9, none⟩ = some (.int .i64 0) := (h10).cell 9
          have fcy9 := (h10).frozen 9
          have cy10 : wf.cell? ⟨g10, 10, none⟩ = some (.slice none 0 0) := (h10).cell 10
          have fcy10 := (h10).frozen 10
          have cy11 : wf.cell? ⟨g10, 11, none⟩ = some (.string ⟨#[]⟩) := (h10).cell 11
          have fcy11 := (h10).frozen 11
          have cy12 : wf.cell? ⟨g10, 12, none⟩ = some (.string ⟨#[]⟩) := (h10).cell 12
          have fcy12 := (h10).frozen 12
          have cy13 : wf.cell? ⟨g10, 13, none⟩ = some (.bool false) := (h10).cell 13
          have fcy13 := (h10).frozen 13
          have lcy := (h10).lt
          clear h1 h10
          cases Y with
          | none =>
            obtain rfl : code = 3 := hcode
            go_wp2_with fail
            have hz := blk_puts [.int .i64 4, .slice none 0 0, .int .i64 0, .int .i64 0, .string ⟨#[]⟩, .int .i64 0, .int .i64 0, .int .i64 0, .int .i64 0, .int .i64 0, .slice none 0 0, .string ⟨#[]⟩, .string ⟨#[]⟩, .bool false] zero14.toList (wf) 0 [] HL.out.1 rfl rfl
            have hbz := HL.out.2.trans (below_put14 [.int .i64 4, .slice none 0 0, .int .i64 0, .int .i64 0, .string ⟨#[]⟩, .int .i64 0, .int .i64 0, .int .i64 0, .int .i64 0, .int .i64 0, .slice none 0 0, .string ⟨#[]⟩, .string ⟨#[]⟩, .bool false] (wf) g 0)
            have hgz := grownBy_puts [.int .i64 4, .slice none 0 0, .int .i64 0, .int .i64 0, .string ⟨#[]⟩, .int .i64 0, .int .i64 0, .int .i64 0, .int .i64 0, .int .i64 0, .slice none 0 0, .string ⟨#[]⟩, .string ⟨#[]⟩, .bool false] (wf) g 0
            simp only [puts, Nat.zero_add, Nat.reduceAdd] at hz hbz hgz
            refine bodyPost_ret (v := .agg #[.int .i64 4, .slice none 0 0, .int .i64 0, .int .i64 0, .string ⟨#[]⟩, .int .i64 0, .int .i64 0, .int .i64 0, .int .i64 0, .int .i64 0, .slice none 0 0, .string ⟨#[]⟩, .string ⟨#[]⟩, .bool false]) ?_ rfl ?_
            · refine ret_cd Try.results126 ?_ hz rfl
              rfl
            · refine ⟨?_, by rw [HG.out]; exact hbz⟩
              rw [partEnd_some hopv]
              refine ⟨_, rfl, ?_⟩
              rw [pQ_par (hX.trans hX2), hY]
              exact leaf_qd _ _ (by unfold I64 zeroQ; decide) (by unfold I64 zeroQ; decide)
          | some Q =>
            obtain rfl : code = 0 := hcode
            go_wp2_with fail
            have hz := blk_puts [.int .i64 qk, .slice qa qn qc, .int .i64 q1, .int .i64 q2, .string ⟨q3.toArray⟩, .int .i64 0, .int .i64 0, .int .i64 0, .int .i64 0, .int .i64 0, .slice none 0 0, .string ⟨#[]⟩, .string ⟨#[]⟩, .bool false] zero14.toList (wf) 0 [] HL.out.1 rfl rfl
            have hbz := HL.out.2.trans (below_put14 [.int .i64 qk, .slice qa qn qc, .int .i64 q1, .int .i64 q2, .string ⟨q3.toArray⟩, .int .i64 0, .int .i64 0, .int .i64 0, .int .i64 0, .int .i64 0, .slice none 0 0, .string ⟨#[]⟩, .string ⟨#[]⟩, .bool false] (wf) g 0)
            have hgz := grownBy_puts [.int .i64 qk, .slice qa qn qc, .int .i64 q1, .int .i64 q2, .string ⟨q3.toArray⟩, .int .i64 0, .int .i64 0, .int .i64 0, .int .i64 0, .int .i64 0, .slice none 0 0, .string ⟨#[]⟩, .string ⟨#[]⟩, .bool false] (wf) g 0
            simp only [puts, Nat.zero_add, Nat.reduceAdd] at hz hbz hgz
            refine bodyPost_ret (v := .agg #[.int .i64 qk, .slice qa qn qc, .int .i64 q1, .int .i64 q2, .string ⟨q3.toArray⟩, .int .i64 0, .int .i64 0, .int .i64 0, .int .i64 0, .int .i64 0, .slice none 0 0, .string ⟨#[]⟩, .string ⟨#[]⟩, .bool false]) ?_ rfl ?_
            · refine ret_cd Try.results126 ?_ hz rfl
              rfl
            · refine ⟨?_, by rw [HG.out]; exact hbz⟩
              rw [partEnd_some hopv]
              refine ⟨_, rfl, ?_⟩
              rw [pQ_par (hX.trans hX2), hY]
              exact (HR.out.grown hgz (fun k e _ => by have := Option.some.inj e; omega)).anti fun b hb => Or.inl (by have := HG.out; omega)
      · skip
        go_upto_region 4 with fail
        have hb2 := below_box wa (.cells #[.int .i64 2, .string ⟨tt.toArray⟩, .int .i64 tn, .int .i64 td, .bool ti, .bool tid, .slice koa K kcap] 74)
        have h7 := Blk.new wa 74 #[.int .i64 2, .string ⟨tt.toArray⟩, .int .i64 tn, .int .i64 td, .bool ti, .bool tid, .slice koa K kcap]
        rw [hs1] at h7
        have HH := Lib.hid (And.intro (H.out.1.below hb2 H.out.1.lt) (And.intro (H.out.2.1.trans (hb2.mono (by omega))) (And.intro (H.out.2.2.1.below hb2 H.out.2.2.1.lt) (And.intro (HKD.out.1.below hb2) h7))))
        clear hb2 h7 ca0 fca0 ca1 fca1 ca2 fca2 ca3 fca3 ca4 fca4 ca5 fca5 ca6 fca6 ca7 fca7 ca8 fca8 ca9 fca9 ca10 fca10 ca11 fca11 ca12 fca12 ca13 fca13 f0 f1 f2 f3 f4 f5 f6 H
        generalize World.alloc wa _ = wb at *
        have ht := ktold_any bq gR h 2 tt tn td ti tid koa kcap kb ko kids wb HH.out.2.2.1 HH.out.2.2.2.1 HKD.out.2.1 HKD.out.2.2.1
        rw [HKD.out.2.2.2] at ht
        obtain ⟨X, hX⟩ : ∃ X, leafF bq (.mk ⟨2, tt, (tn, td), ti, tid⟩ (kids.map Vl.c)) = X := ⟨_, rfl⟩
        rw [hX] at ht
        obtain ⟨k, a, b, s, ok, hXp, hX1, hX0⟩ := told_parts X
        rw [hXp] at ht
        have HT := Lib.hid ht
        have h7 := HH.out.2.2.2.2
        have cv0 : wb.cell? ⟨g + 1, 0, none⟩ = some (.int .i64 2) := (h7).cell 0
        have fcv0 := (h7).frozen 0
        have cv1 : wb.cell? ⟨g + 1, 1, none⟩ = some (.string ⟨tt.toArray⟩) := (h7).cell 1
        have fcv1 := (h7).frozen 1
        have cv2 : wb.cell? ⟨g + 1, 2, none⟩ = some (.int .i64 tn) := (h7).cell 2
        have fcv2 := (h7).frozen 2
        have cv3 : wb.cell? ⟨g + 1, 3, none⟩ = some (.int .i64 td) := (h7).cell 3
        have fcv3 := (h7).frozen 3
        have cv4 : wb.cell? ⟨g + 1, 4, none⟩ = some (.bool ti) := (h7).cell 4
        have fcv4 := (h7).frozen 4
        have cv5 : wb.cell? ⟨g + 1, 5, none⟩ = some (.bool tid) := (h7).cell 5
        have fcv5 := (h7).frozen 5
        have cv6 : wb.cell? ⟨g + 1, 6, none⟩ = some (.slice koa K kcap) := (h7).cell 6
        have fcv6 := (h7).frozen 6
        have lcv := (h7).lt
        clear h7 ht
        go_wp2_with fail
        ((with_reducible refine (HT.out).mono ?_); rintro e w' ⟨rfl, hbw⟩)
        obtain ⟨m, rfl⟩ := grow_mk hbw
        clear hbw
        have HI := Lib.hid (And.intro (HH.out.1.grow m) (And.intro (HH.out.2.1.trans ((grow_below m).mono (by omega))) (And.intro (HH.out.2.2.1.grow m) (And.intro (HH.out.2.2.2.1.below (grow_below m)) (HH.out.2.2.2.2.grow m)))))
        clear HH HT lcv cv0 cv1 cv2 cv3 cv4 cv5 cv6 fcv0 fcv1 fcv2 fcv3 fcv4 fcv5 fcv6
        generalize grow wb m = wc at *
        go_upto_region 5 with fail
        have hb3 := below_box wc (.cells #[.int .i64 k, .slice none 0 0, .int .i64 a, .int .i64 b, .string s, .int .i64 0, .int .i64 0, .int .i64 0, .int .i64 0, .int .i64 0, .slice none 0 0, .string ⟨#[]⟩, .string ⟨#[]⟩, .bool false] 49)
        have HJ := Lib.hid (And.intro (HI.out.1.below hb3 HI.out.1.lt) (And.intro (HI.out.2.1.trans (hb3.mono (by have := HI.out.1.lt; omega))) (And.intro (HI.out.2.2.1.below hb3 HI.out.2.2.1.lt) (And.intro (HI.out.2.2.2.1.below hb3) (And.intro (HI.out.2.2.2.2.below hb3 HI.out.2.2.2.2.lt) (Blk.new wc 49 #[.int .i64 k, .slice none 0 0, .int .i64 a, .int .i64 b, .string s, .int .i64 0, .int .i64 0, .int .i64 0, .int .i64 0, .int .i64 0, .slice none 0 0, .string ⟨#[]⟩, .string ⟨#[]⟩, .bool false]))))))
        clear hb3 HI
        obtain ⟨g8, hg8⟩ : ∃ g8, wc.heap.size = g8 := ⟨_, rfl⟩
        rw [hg8] at HJ
        simp only [hg8]
        clear hg8
        generalize World.alloc wc _ = wd at *
        obtain ⟨h1, hb, hR, hvs, h7, h8⟩ := HJ.out
        have ca0 : wd.cell? ⟨g, 0, none⟩ = some (.int .i64 0) := (h1).cell 0
        have fca0 := (h1).frozen 0
        have ca1 : wd.cell? ⟨g, 1, none⟩ = some (.slice none 0 0) := (h1).cell 1
        have fca1 := (h1).frozen 1
        have ca2 : wd.cell? ⟨g, 2, none⟩ = some (.int .i64 0) := (h1).cell 2
        have fca2 := (h1).frozen 2
        have ca3 : wd.cell? ⟨g, 3, none⟩ = some (.int .i64 0) := (h1).cell 3
        have fca3 := (h1).frozen 3
        have ca4 : wd.cell? ⟨g, 4, none⟩ = some (.string ⟨#[]⟩) := (h1).cell 4
        have fca4 := (h1).frozen 4
        have ca5 : wd.cell? ⟨g, 5, none⟩ = some (.int .i64 0) := (h1).cell 5
        have fca5 := (h1).frozen 5
        have ca6 : wd.cell? ⟨g, 6, none⟩ = some (.int .i64 0) := (h1).cell 6
        have fca6 := (h1).frozen 6
        have ca7 : wd.cell? ⟨g, 7, none⟩ = some (.int .i64 0) := (h1).cell 7
        have fca7 := (h1).frozen 7
        have ca8 : wd.cell? ⟨g, 8, none⟩ = some (.int .i64 0) := (h1).cell 8
        have fca8 := (h1).frozen 8
        have ca9 : wd.cell? ⟨g, 9, none⟩ = some (.int .i64 0) := (h1).cell 9
        have fca9 := (h1).frozen 9
        have ca10 : wd.cell? ⟨g, 10, none⟩ = some (.slice none 0 0) := (h1).cell 10
        have fca10 := (h1).frozen 10
        have ca11 : wd.cell? ⟨g, 11, none⟩ = some (.string ⟨#[]⟩) := (h1).cell 11
        have fca11 := (h1).frozen 11
        have ca12 : wd.cell? ⟨g, 12, none⟩ = some (.string ⟨#[]⟩) := (h1).cell 12
        have fca12 := (h1).frozen 12
        have ca13 : wd.cell? ⟨g, 13, none⟩ = some (.bool false) := (h1).cell 13
        have fca13 := (h1).frozen 13
        have lca := (h1).lt
        have cv0 : wd.cell? ⟨g + 1, 0, none⟩ = some (.int .i64 2) := (h7).cell 0
        have fcv0 := (h7).frozen 0
        have cv1 : wd.cell? ⟨g + 1, 1, none⟩ = some (.string ⟨tt.toArray⟩) := (h7).cell 1
        have fcv1 := (h7).frozen 1
        have cv2 : wd.cell? ⟨g + 1, 2, none⟩ = some (.int .i64 tn) := (h7).cell 2
        have fcv2 := (h7).frozen 2
        have cv3 : wd.cell? ⟨g + 1, 3, none⟩ = some (.int .i64 td) := (h7).cell 3
        have fcv3 := (h7).frozen 3
        have cv4 : wd.cell? ⟨g + 1, 4, none⟩ = some (.bool ti) := (h7).cell 4
        have fcv4 := (h7).frozen 4
        have cv5 : wd.cell? ⟨g + 1, 5, none⟩ = some (.bool tid) := (h7).cell 5
        have fcv5 := (h7).frozen 5
        have cv6 : wd.cell? ⟨g + 1, 6, none⟩ = some (.slice koa K kcap) := (h7).cell 6
        have fcv6 := (h7).frozen 6
        have lcv := (h7).lt
        have cx0 : wd.cell? ⟨g8, 0, none⟩ = some (.int .i64 k) := (h8).cell 0
        have fcx0 := (h8).frozen 0
        have cx1 : wd.cell? ⟨g8, 1, none⟩ = some (.slice none 0 0) := (h8).cell 1
        have fcx1 := (h8).frozen 1
        have cx2 : wd.cell? ⟨g8, 2, none⟩ = some (.int .i64 a) := (h8).cell 2
        have fcx2 := (h8).frozen 2
        have cx3 : wd.cell? ⟨g8, 3, none⟩ = some (.int .i64 b) := (h8).cell 3
        have fcx3 := (h8).frozen 3
        have cx4 : wd.cell? ⟨g8, 4, none⟩ = some (.string s) := (h8).cell 4
        have fcx4 := (h8).frozen 4
        have cx5 : wd.cell? ⟨g8, 5, none⟩ = some (.int .i64 0) := (h8).cell 5
        have fcx5 := (h8).frozen 5
        have cx6 : wd.cell? ⟨g8, 6, none⟩ = some (.int .i64 0) := (h8).cell 6
        have fcx6 := (h8).frozen 6
        have cx7 : wd.cell? ⟨g8, 7, none⟩ = some (.int .i64 0) := (h8).cell 7
        have fcx7 := (h8).frozen 7
        have cx8 : wd.cell? ⟨g8, 8, none⟩ = some (.int .i64 0) := (h8).cell 8
        have fcx8 := (h8).frozen 8
        have cx9 : wd.cell? ⟨g8, 9, none⟩ = some (.int .i64 0) := (h8).cell 9
        have fcx9 := (h8).frozen 9
        have cx10 : wd.cell? ⟨g8, 10, none⟩ = some (.slice none 0 0) := (h8).cell 10
        have fcx10 := (h8).frozen 10
        have cx11 : wd.cell? ⟨g8, 11, none⟩ = some (.string ⟨#[]⟩) := (h8).cell 11
        have fcx11 := (h8).frozen 11
        have cx12 : wd.cell? ⟨g8, 12, none⟩ = some (.string ⟨#[]⟩) := (h8).cell 12
        have fcx12 := (h8).frozen 12
        have cx13 : wd.cell? ⟨g8, 13, none⟩ = some (.bool false) := (h8).cell 13
        have fcx13 := (h8).frozen 13
        have lcx := (h8).lt
        clear h1 hb hR hvs h7 h8
        cases ok with
        | true =>
          obtain ⟨L, hL, rfl, hL2⟩ := hX1 rfl
          go_wp2_with fail
          have hz := blk_puts [.int .i64 4, .slice none 0 0, .int .i64 a, .int .i64 b, .string s, .int .i64 0, .int .i64 0, .int .i64 0, .int .i64 0, .int .i64 0, .slice none 0 0, .string ⟨#[]⟩, .string ⟨#[]⟩, .bool false] zero14.toList (wd) 0 [] HJ.out.1 rfl rfl
          have hbz := HJ.out.2.1.trans (below_put14 [.int .i64 4, .slice none 0 0, .int .i64 a, .int .i64 b, .string s, .int .i64 0, .int .i64 0, .int .i64 0, .int .i64 0, .int .i64 0, .slice none 0 0, .string ⟨#[]⟩, .string ⟨#[]⟩, .bool false] (wd) g 0)
          have hgz := grownBy_puts [.int .i64 4, .slice none 0 0, .int .i64 a, .int .i64 b, .string s, .int .i64 0, .int .i64 0, .int .i64 0, .int .i64 0, .int .i64 0, .slice none 0 0, .string ⟨#[]⟩, .string ⟨#[]⟩, .bool false] (wd) g 0
          simp only [puts, Nat.zero_add, Nat.reduceAdd] at hz hbz hgz
          refine bodyPost_ret (v := .agg #[.int .i64 4, .slice none 0 0, .int .i64 a, .int .i64 b, .string s, .int .i64 0, .int .i64 0, .int .i64 0, .int .i64 0, .int .i64 0, .slice none 0 0, .string ⟨#[]⟩, .string ⟨#[]⟩, .bool false]) ?_ rfl ?_
          · refine ret_cd Try.results126 ?_ hz rfl
            rfl
          · refine ⟨?_, by rw [HG.out]; exact hbz⟩
            rw [partEnd_some hopv]
            refine ⟨_, rfl, ?_⟩
            rw [pQ_leaf (hX.trans hL)]
            obtain ⟨i1, i2⟩ := leafF_64 (hX.trans hL)
            subst hL2
            exact leaf_qd _ _ i1 i2
        | false =>
          have hX2 := hX0 rfl
          go_wp2_with fail
          have hz := blk_puts [.int .i64 4, .slice none 0 0, .int .i64 0, .int .i64 0, .string ⟨#[]⟩, .int .i64 0, .int .i64 0, .int .i64 0, .int .i64 0, .int .i64 0, .slice none 0 0, .string ⟨#[]⟩, .string ⟨#[]⟩, .bool false] zero14.toList (wd) 0 [] HJ.out.1 rfl rfl
          have hbz := HJ.out.2.1.trans (below_put14 [.int .i64 4, .slice none 0 0, .int .i64 0, .int .i64 0, .string ⟨#[]⟩, .int .i64 0, .int .i64 0, .int .i64 0, .int .i64 0, .int .i64 0, .slice none 0 0, .string ⟨#[]⟩, .string ⟨#[]⟩, .bool false] (wd) g 0)
          have hgz := grownBy_puts [.int .i64 4, .slice none 0 0, .int .i64 0, .int .i64 0, .string ⟨#[]⟩, .int .i64 0, .int .i64 0, .int .i64 0, .int .i64 0, .int .i64 0, .slice none 0 0, .string ⟨#[]⟩, .string ⟨#[]⟩, .bool false] (wd) g 0
          simp only [puts, Nat.zero_add, Nat.reduceAdd] at hz hbz hgz
          refine bodyPost_ret (v := .agg #[.int .i64 4, .slice none 0 0, .int .i64 0, .int .i64 0, .string ⟨#[]⟩, .int .i64 0, .int .i64 0, .int .i64 0, .int .i64 0, .int .i64 0, .slice none 0 0, .string ⟨#[]⟩, .string ⟨#[]⟩, .bool false]) ?_ rfl ?_
          · refine ret_cd Try.results126 ?_ hz rfl
            rfl
          · refine ⟨?_, by rw [HG.out]; exact hbz⟩
            rw [partEnd_some hopv]
            refine ⟨_, rfl, ?_⟩
            rw [pQ_fun (hX.trans hX2)]
            exact leaf_qd _ _ (by unfold I64 zeroQ; decide) (by unfold I64 zeroQ; decide)
    · have gk : (tk != 21) = true := by rw [bne_iff_ne]; exact fun e => hop (Or.inl e)
      have gk2 : (tk != 2) = true := by rw [bne_iff_ne]; exact fun e => hop (Or.inr e)
      have hopv : opensV (.mk ⟨tk, tt, (tn, td), ti, tid⟩ (kids.map Vl.c)) = false := by
        unfold opensV
        rw [Bool.or_eq_false_iff]
        exact ⟨beq_eq_false_iff_ne.2 fun e => hop (Or.inl e), beq_eq_false_iff_ne.2 fun e => hop (Or.inr e)⟩
      go_wp2_with fail
      refine ⟨rfl, ?_, ?_⟩
      · rw [partEnd_not hopv]
        rfl
      · rw [HG.out]
        exact H.out.2.1
  · have gi : decide ((N : Int) ≤ (i : Int)) = true := by simp; omega
    have gin : decide (N ≤ i) = true := by simp; omega
    obtain rfl : Y = none := by
      rw [← HY.out, List.getElem?_eq_none]
      rw [List.length_map, HN.out]
      omega
    go_wp2_with fail
    refine ⟨rfl, rfl, ?_⟩
    rw [HG.out]
    exact H.out.2.1

end Go.Proofs.Ytgjhaanpkfheeaa
