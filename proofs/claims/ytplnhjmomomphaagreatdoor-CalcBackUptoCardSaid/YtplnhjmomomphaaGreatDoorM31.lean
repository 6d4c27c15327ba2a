/- Of my texts: PlainW. -/
import Derived.Test.YtplnhjmomomphaaGreatDoorM04
import Derived.Test.YtplnhjmomomphaaGreatDoorM12
import Derived.Test.YtplnhjmomomphaaGreatDoorM13
import Derived.Test.YtplnhjmomomphaaGreatDoorM28
import Derived.Test.YtplnhjmomomphaaGreatDoorM29
import Derived.Test.YtplnhjmomomphaaGreatDoorM30
namespace Go.Proofs.YtplnhjmomomphaaGreatDoor
set_option linter.unusedVariables false
set_option linter.unusedSimpArgs false
open Go.RowKit Go.Lib
/-- what is told of a text or of none -/
def outP (o : Option (List UInt8)) : Value :=
 match o with
 | some t => .tuple #[.string ⟨t.toArray⟩, .int .i64 0]
 | none => .tuple #[.string ⟨#[]⟩, .int .i64 1]
/-- twos, then fives -/
def mulR (a b : Nat) : Nat → Nat → Option Nat
 | 0, n => (prg18 2 a n).bind (prg18 5 b)
 | 1, n => prg18 5 b n
 | _ + 2, n => some n
def facR (j : Nat) : Nat := if j = 0 then 2 else 5
def timR (a b j : Nat) : Nat := if j = 0 then a else b
theorem mulR_step (a b j n : Nat) (h : j < 2) : mulR a b j n = (prg18 (facR j) (timR a b j) n).bind (mulR a b (j + 1)) := by
 have : j = 0 ∨ j = 1 := by omega
 rcases this with rfl | rfl
 · rfl
 · show prg18 5 b n = (prg18 5 b n).bind (mulR a b 2)
   cases prg18 5 b n <;> rfl
theorem prg18_big {g k n : Nat} (h : 1000000000000000000 < n) : prg18 g (k + 1) n = none := by rw [prg18, if_pos h]
theorem prg18_go {g k n : Nat} (h : ¬ 1000000000000000000 < n) : prg18 g (k + 1) n = prg18 g k (n * g) := by rw [prg18, if_neg h]
theorem plainF_parts {r : Rt} {whole : Bool} {t f m : Nat} (hs : sureB r = true) (hw : ¬ (whole = true ∧ 1 < r.2)) (hd : r.2.toNat = 2 ^ t * (5 ^ f * m)) (h2 : m % 2 ≠ 0) (h5 : m % 5 ≠ 0) :
 plainF r whole = if m = 1 then (match mulR (max t f - t) (max t f - f) 0 r.1.natAbs with
  | none => none
  | some num => if 18 < (trimR (decDigits num)).length then none else some (plainT (decide (r.1 < 0)) num (max t f) whole)) else none := by
 obtain ⟨s1, s2⟩ := sure_parts hs
 have hg : Nat.gcd r.1.natAbs r.2.toNat = 1 := by
  simp only [sureB, Bool.and_eq_true, beq_iff_eq] at hs
  exact hs.2
 have e : mulR (max t f - t) (max t f - f) 0 r.1.natAbs = (prg18 2 (max t f - t) r.1.natAbs).bind (prg18 5 (max t f - f)) := rfl
 rw [e]
 unfold plainF
 rw [if_neg (by rw [not_or]; exact ⟨by simp [mayB, hs], hw⟩), if_neg (by omega), hd, refL_prog h2 h5 (by rw [← hd]; exact hg)]
 by_cases hm : m = 1
 · rw [if_pos hm, if_pos hm]
   cases (prg18 2 (max t f - t) r.1.natAbs).bind (prg18 5 (max t f - f)) <;> rfl
 · rw [if_neg hm, if_neg hm]
theorem idx_0 (x0 x1 x2 x3 : Value) (W : World) : (Instr.index 96 (.agg #[x0, x1, x2, x3]) (.int .i64 0)).run Tryz.prog W = .ok (.agg #[x0, x1]) W := by
 simp [Instr.index, run_underlying Tryz.underlying96, asIntOf, go_sem]
theorem idx_1 (x0 x1 x2 x3 : Value) (W : World) : (Instr.index 96 (.agg #[x0, x1, x2, x3]) (.int .i64 1)).run Tryz.prog W = .ok (.agg #[x2, x3]) W := by
 simp [Instr.index, run_underlying Tryz.underlying96, asIntOf, go_sem]
set_option maxRecDepth 20000 in
set_option maxHeartbeats 8000000 in
theorem plain_any (r : Rt) (whole : Bool) (w : World) (h64 : Is64 r) (hdeb : Deb w) :
 Calls Tryz.prog 37 #[rv r, .bool whole] w fun e w' => e = .returned (outP (plainF r whole)) ∧ Below w.heap.size w w' := by
 obtain ⟨PF, hPF⟩ : ∃ x, plainF r whole = x := ⟨_, rfl⟩
 rw [hPF]
 have hmay := fun w => may_any r w h64
 have hsize := fun w => size_any r.1 w h64.1 h64.2.1
 obtain ⟨a, b⟩ := r
 obtain ⟨b1, b2, b3, b4⟩ := h64
 simp only at b1 b2 b3 b4 hsize
 have HM := Lib.hid hmay
 have HS := Lib.hid hsize
 have HDEB := Lib.hid hdeb
 have HPF := Lib.hid hPF
 clear hmay hsize hdeb hPF
 cases hm : mayB (a, b) with
 | false =>
   have HF := Lib.hid (show PF = none by rw [← HPF.out]; unfold plainF; rw [if_pos (Or.inl hm)])
   have hmm := HM.out
   rw [hm] at hmm
   have HMM := Lib.hid hmm
   clear hmm HM HS
   go_enter Tryz.func37, Tryz.ntmps37
   go_wp2_with fail
   ((with_reducible refine (HMM.out _).mono ?_); rintro e w' ⟨rfl, hbw⟩)
   obtain ⟨m1, rfl⟩ := grow_mk hbw
   clear hbw
   go_wp2_with fail
   exact bodyPost_ret (v := .tuple #[.string ⟨#[]⟩, .int .i64 1]) (by simp [results, Tryz.results37, go_sem]) rfl ⟨(by rw [HF.out]; rfl), (by repeat (first | with_reducible exact below_box _ _ | with_reducible refine below_grow ?_ _))⟩
 | true =>
   have hmm := HM.out
   rw [hm] at hmm
   have HMM := Lib.hid hmm
   clear hmm HM
   by_cases hw : whole = true ∧ 1 < b
   · have HF := Lib.hid (show PF = none by rw [← HPF.out]; unfold plainF; rw [if_pos (Or.inr hw)])
     obtain ⟨rfl, hw1⟩ := hw
     have gw : decide ((1 : Int) < b) = true := by simpa using hw1
     go_enter Tryz.func37, Tryz.ntmps37
     go_wp2_with fail
     ((with_reducible refine (HMM.out _).mono ?_); rintro e w' ⟨rfl, hbw⟩)
     obtain ⟨m1, rfl⟩ := grow_mk hbw
     clear hbw
     have hr := (Blk.new w 24 #[.int .i64 a, .int .i64 b]).grow m1
     have hb : Below w.heap.size w (grow (w.alloc (.cells #[.int .i64 a, .int .i64 b] 24)) m1) := below_grow (below_box _ _) m1
     generalize grow _ m1 = wa at *
     have cr0 : wa.cell? ⟨w.heap.size, 0, none⟩ = some (.int .i64 a) := (hr).cell 0
     have fcr0 := (hr).frozen 0
     have cr1 : wa.cell? ⟨w.heap.size, 1, none⟩ = some (.int .i64 b) := (hr).cell 1
     have fcr1 := (hr).frozen 1
     have lcr := (hr).lt
     go_wp2_with fail
     exact bodyPost_ret (v := .tuple #[.string ⟨#[]⟩, .int .i64 1]) (by simp [results, Tryz.results37, go_sem]) rfl ⟨(by rw [HF.out]; rfl), hb⟩
   · have hmp : ¬ (mayB (a, b) = false ∨ (whole = true ∧ 1 < b)) := by rw [not_or]; exact ⟨by rw [hm]; simp, hw⟩
     have gw : whole = true → decide ((1 : Int) < b) = false := fun h => by
      rw [decide_eq_false_iff_not]
      exact fun h2 => hw ⟨h, h2⟩
     by_cases hb0 : b = 0
     · subst hb0
       have HF := Lib.hid (show PF = some (if whole then ninesT else farT) by rw [← HPF.out]; unfold plainF; rw [if_neg hmp, if_pos rfl])
       have hrp : ∀ w, Calls Tryz.prog 53 #[.string ⟨#[57]⟩, .int .i64 20] w fun e w' => e = .returned (.string ⟨(List.replicate 20 57).toArray⟩) ∧ Below w.heap.size w w' := fun w => repeat_any 57 20 w (by omega)
       have HRP := Lib.hid hrp
       clear hrp
       cases whole with
       | true =>
         go_enter Tryz.func37, Tryz.ntmps37
         go_wp2_with fail
         ((with_reducible refine (HMM.out _).mono ?_); rintro e w' ⟨rfl, hbw⟩)
         obtain ⟨m1, rfl⟩ := grow_mk hbw
         clear hbw
         have hr := (Blk.new w 24 #[.int .i64 a, .int .i64 0]).grow m1
         have hb : Below w.heap.size w (grow (w.alloc (.cells #[.int .i64 a, .int .i64 0] 24)) m1) := below_grow (below_box _ _) m1
         generalize grow _ m1 = wa at *
         have cr0 : wa.cell? ⟨w.heap.size, 0, none⟩ = some (.int .i64 a) := (hr).cell 0
         have fcr0 := (hr).frozen 0
         have cr1 : wa.cell? ⟨w.heap.size, 1, none⟩ = some (.int .i64 0) := (hr).cell 1
         have fcr1 := (hr).frozen 1
         have lcr := (hr).lt
         go_wp2_with fail
         ((with_reducible refine (HRP.out _).mono ?_); rintro e w' ⟨rfl, hbw⟩)
         obtain ⟨m2, rfl⟩ := grow_mk hbw
         clear hbw
         go_wp2_with fail
         exact bodyPost_ret (v := .tuple #[.string ⟨(List.replicate 20 57).toArray⟩, .int .i64 0]) (by simp [results, Tryz.results37, go_sem]) rfl ⟨(by rw [HF.out]; rfl), (below_grow hb m2)⟩
       | false =>
         go_enter Tryz.func37, Tryz.ntmps37
         go_wp2_with fail
         ((with_reducible refine (HMM.out _).mono ?_); rintro e w' ⟨rfl, hbw⟩)
         obtain ⟨m1, rfl⟩ := grow_mk hbw
         clear hbw
         have hr := (Blk.new w 24 #[.int .i64 a, .int .i64 0]).grow m1
         have hb : Below w.heap.size w (grow (w.alloc (.cells #[.int .i64 a, .int .i64 0] 24)) m1) := below_grow (below_box _ _) m1
         generalize grow _ m1 = wa at *
         have cr0 : wa.cell? ⟨w.heap.size, 0, none⟩ = some (.int .i64 a) := (hr).cell 0
         have fcr0 := (hr).frozen 0
         have cr1 : wa.cell? ⟨w.heap.size, 1, none⟩ = some (.int .i64 0) := (hr).cell 1
         have fcr1 := (hr).frozen 1
         have lcr := (hr).lt
         go_wp2_with fail
         exact bodyPost_ret (v := .tuple #[.string ⟨#[49, 101, 57, 57]⟩, .int .i64 0]) (by simp [results, Tryz.results37, go_sem]) rfl ⟨(by rw [HF.out]; rfl), hb⟩
     · have hs : sureB (a, b) = true := by
        simp only [mayB, Bool.or_eq_true, Bool.and_eq_true, decide_eq_true_eq] at hm
        rcases hm with hh | hh
        · exact absurd hh.2 hb0
        · exact hh
       have hb1 := (sure_parts hs).1
       simp only at hb1
       obtain ⟨d, rfl⟩ : ∃ d : Nat, b = (d : Int) := ⟨b.toNat, by omega⟩
       obtain ⟨t, f, m, hd, m2, m5⟩ := parts25 d (by omega)
       have hpl := plainF_parts (t := t) (f := f) (m := m) hs hw (by rw [← hd]; rfl) m2 m5
       rw [HPF.out] at hpl
       obtain ⟨tf, ff⟩ := parts_few (t := t) (f := f) (m := m) (by omega) (by omega)
       have hpw := fun w => powers_any t f m w m2 m5 (by omega)
       rw [← hd] at hpw
       obtain ⟨k, hk⟩ : ∃ k, max t f = k := ⟨_, rfl⟩
       obtain ⟨K0, hK0⟩ : ∃ x, k - t = x := ⟨_, rfl⟩
       obtain ⟨K1, hK1⟩ : ∃ x, k - f = x := ⟨_, rfl⟩
       obtain ⟨n, hn⟩ : ∃ n, a.natAbs = n := ⟨_, rfl⟩
       simp only [hk, hK0, hK1, hn] at hpl
       have ik : max (t : Int) (f : Int) = (k : Int) := by omega
       have ik0 : (k : Int) - (t : Int) = (K0 : Int) := by omega
       have ik1 : (k : Int) - (f : Int) = (K1 : Int) := by omega
       have iw : IntKind.u64.wrap (d : Int) = (d : Int) := by rw [IntKind.wrap_u64]; omega
       have hz := HS.out
       rw [hn] at hz
       have g0 : ((d : Int) == 0) = false := by rw [beq_eq_false_iff_ne]; exact hb0
       by_cases hm1 : m = 1
       · subst hm1
         rw [if_pos rfl] at hpl
         have HZ := Lib.hid hz
         rw [show decide ((1 : Nat) = 1) = true from rfl] at hpw
         have HPW := Lib.hid hpw
         obtain ⟨X, hX⟩ : ∃ x, mulR K0 K1 0 n = x := ⟨_, rfl⟩
         rw [hX] at hpl
         have HX := Lib.hid hX
         have HF := Lib.hid hpl
         have hk62 : k ≤ 62 := by omega
         have hK0l : K0 ≤ 62 := by omega
         have hK1l : K1 ≤ 62 := by omega
         have hn63 : n ≤ 9223372036854775808 := by omega
         have hwk : whole = true → k = 0 := fun h => by
          have h1 := gw h
          rw [decide_eq_false_iff_not] at h1
          have p1 : 1 ≤ 5 ^ f * 1 := by rw [Nat.mul_one]; exact Nat.pow_pos (by decide)
          have p2 : 2 ^ t ≤ 2 ^ t * (5 ^ f * 1) := Nat.le_mul_of_pos_right _ p1
          have p3 : 5 ^ f * 1 ≤ 2 ^ t * (5 ^ f * 1) := Nat.le_mul_of_pos_left _ (Nat.pow_pos (by decide))
          have p4 : 2 ^ f ≤ 5 ^ f := Nat.pow_le_pow_left (by decide) f
          have p5 := Nat.lt_two_pow_self (n := t)
          have p6 := Nat.lt_two_pow_self (n := f)
          rw [← hd] at p2 p3
          rw [Nat.mul_one] at p3
          omega
         have HWK := Lib.hid hwk
         clear hwk
         clear hz hpw hpl HS HPF hK0 hK1 hk hd m2 m5 hs hm hmp hX
         cases whole
         all_goals
          first | (have gw2 := gw rfl) | skip
          clear gw
          go_enter Tryz.func37, Tryz.ntmps37
          go_wp2_with fail
          ((with_reducible refine (HMM.out _).mono ?_); rintro e w' ⟨rfl, hbw⟩)
          obtain ⟨m1, rfl⟩ := grow_mk hbw
          clear hbw
          have hr := (Blk.new w 24 #[.int .i64 a, .int .i64 d]).grow m1
          have hb : Below w.heap.size w (grow (w.alloc (.cells #[.int .i64 a, .int .i64 d] 24)) m1) := below_grow (below_box _ _) m1
          generalize grow _ m1 = wa at *
          have HDW := Lib.hid (HDEB.out.below hb)
          have cr0 : wa.cell? ⟨w.heap.size, 0, none⟩ = some (.int .i64 a) := (hr).cell 0
          have fcr0 := (hr).frozen 0
          have cr1 : wa.cell? ⟨w.heap.size, 1, none⟩ = some (.int .i64 d) := (hr).cell 1
          have fcr1 := (hr).frozen 1
          have lcr := (hr).lt
          go_wp2_with fail
          ((with_reducible refine (HPW.out _ HDW.out).mono ?_); rintro e w' ⟨rfl, hbw⟩)
          obtain ⟨m2, rfl⟩ := grow_mk hbw
          clear hbw
          replace hr := hr.grow m2
          replace hb := below_grow hb m2
          clear fcr0 fcr1 lcr cr0 cr1 HDW
          generalize grow wa m2 = wb at *
          have cr0 : wb.cell? ⟨w.heap.size, 0, none⟩ = some (.int .i64 a) := (hr).cell 0
          have fcr0 := (hr).frozen 0
          have cr1 : wb.cell? ⟨w.heap.size, 1, none⟩ = some (.int .i64 d) := (hr).cell 1
          have fcr1 := (hr).frozen 1
          have lcr := (hr).lt
          go_wp2_with fail
          ((with_reducible refine (HZ.out _).mono ?_); rintro e w' ⟨rfl, rfl⟩)
          go_wp2_with fail
          clear fcr0 fcr1 lcr cr0 cr1
          go_loopg [66, 10] 2 (fun q s66 s10 wr => ∃ (j u : Nat), s66 = .int .i64 j ∧ s10 = .int .u64 u ∧ j ≤ 2 ∧ 2 - j ≤ q ∧ u ≤ 9223372036854775808 ∧ Hid (mulR K0 K1 j u = X) ∧ Hid (Below w.heap.size w wr ∧ Blk wr w.heap.size 24 #[.int .i64 a, .int .i64 d]))
          case atStart => exact ⟨0, n, rfl, rfl, by omega, by omega, hn63, HX, Lib.hid ⟨hb, hr⟩⟩
          case round =>
           obtain ⟨j, u, rfl, rfl, hj, hq, hu, hx, hg⟩ := hrel
           by_cases hj2 : j < 2
           · have hx2 := Lib.hid ((mulR_step K0 K1 j u hj2).symm.trans hx.out)
             clear hx
             have hix0 := fun W => idx_0 (.int .u64 2) (.int .u64 K0) (.int .u64 5) (.int .u64 K1) W
             have hix1 := fun W => idx_1 (.int .u64 2) (.int .u64 K0) (.int .u64 5) (.int .u64 K1) W
             have hj3 : j = 0 ∨ j = 1 := by omega
             obtain ⟨g, hg5, hge⟩ : ∃ g, (g = 2 ∨ g = 5) ∧ facR j = g := ⟨_, by rcases hj3 with rfl | rfl; exact Or.inl rfl; exact Or.inr rfl, rfl⟩
             obtain ⟨c, hc62, hce⟩ : ∃ c, c ≤ 62 ∧ timR K0 K1 j = c := ⟨_, by rcases hj3 with rfl | rfl; exact hK0l; exact hK1l, rfl⟩
             rw [hge, hce] at hx2
             have hix : ∀ W, (Instr.index 96 (.agg #[.int .u64 2, .int .u64 K0, .int .u64 5, .int .u64 K1]) (.int .i64 j)).run Tryz.prog W = .ok (.agg #[.int .u64 g, .int .u64 c]) W := by
              rcases hj3 with rfl | rfl
              · rw [← hge, ← hce]; exact hix0
              · rw [← hge, ← hce]; exact hix1
             clear hix0 hix1 hge hce
             have gj : decide ((j : Int) < 2) = true := by simp; omega
             go_upto_region 15 with fail
             have hlt : w.heap.size < wr.heap.size := hg.out.2.lt
             have hb2 : Below w.heap.size w (wr.alloc (.cells #[.int .u64 g, .int .u64 c] 95)) := hg.out.1.alloc hg.out.1.size _
             have hr2 : Blk (wr.alloc (.cells #[.int .u64 g, .int .u64 c] 95)) w.heap.size 24 #[.int .i64 a, .int .i64 d] := hg.out.2.old _
             have hB : Blk (wr.alloc (.cells #[.int .u64 g, .int .u64 c] 95)) wr.heap.size 95 #[.int .u64 g, .int .u64 c] := Blk.new _ _ _
             obtain ⟨B, hBe⟩ : ∃ x, wr.heap.size = x := ⟨_, rfl⟩
             rw [hBe] at hB hlt ⊢
             clear hBe hg
             generalize wr.alloc _ = wy at *
             have cB0 : wy.cell? ⟨B, 0, none⟩ = some (.int .u64 g) := (hB).cell 0
             have fcB0 := (hB).frozen 0
             have cB1 : wy.cell? ⟨B, 1, none⟩ = some (.int .u64 c) := (hB).cell 1
             have fcB1 := (hB).frozen 1
             have lcB := (hB).lt
             go_wp2_with fail
             go_loopg [71, 10] c (fun q s71 s10 wx => ∃ (i v : Nat), s71 = .int .u64 i ∧ s10 = .int .u64 v ∧ wx = wy ∧ i ≤ c ∧ c - i ≤ q ∧ v ≤ 9223372036854775808 ∧ Hid ((prg18 g (c - i) v).bind (mulR K0 K1 (j + 1)) = X))
             case atStart => exact ⟨0, u, rfl, rfl, rfl, by omega, by omega, hu, hx2⟩
             case round =>
              clear hx2 hu
              obtain ⟨i, v, rfl, rfl, rfl, hi, hq2, hv, hx⟩ := hrel
              by_cases hic : i < c
              · have gi : decide ((i : Int) < (c : Int)) = true := by simp; omega
                have hx3 := hx.out
                rw [show c - i = (c - (i + 1)) + 1 by omega] at hx3
                by_cases hbig : 1000000000000000000 < v
                · have gv : decide ((1000000000000000000 : Int) < (v : Int)) = true := by simp; omega
                  rw [prg18_big hbig] at hx3
                  have hX0 : X = none := hx3.symm
                  have HG := Lib.hid (show PF = none by rw [HF.out, hX0])
                  clear hx3 hX0 hx
                  go_wp2_with fail
                  exact bodyPost_ret (v := .tuple #[.string ⟨#[]⟩, .int .i64 1]) (by simp [results, Tryz.results37, go_sem]) rfl ⟨(by rw [HG.out]; rfl), hb2⟩
                · have gv : decide ((1000000000000000000 : Int) < (v : Int)) = false := by simp; omega
                  rw [prg18_go hbig] at hx3
                  have hvg : v * g ≤ 5000000000000000000 := by
                   rcases hg5 with rfl | rfl <;> omega
                  obtain ⟨vg, hvge⟩ : ∃ x, v * g = x := ⟨_, rfl⟩
                  have ivg : (v : Int) * (g : Int) = (vg : Int) := by rw [← hvge, Int.natCast_mul]
                  rw [hvge] at hx3 hvg
                  have HX3 := Lib.hid hx3
                  clear hx3 hx hvge
                  go_wp2_with fail
                  go_roundg (c - (i + 1))
                  case measure => omega
                  case rel => exact ⟨i + 1, vg, by go_num, by go_num, rfl, hic, Nat.le_refl _, by omega, HX3⟩
              · have gi : decide ((i : Int) < (c : Int)) = false := by simp; omega
                have hx3 := hx.out
                rw [show c - i = 0 by omega] at hx3
                have HX3 := Lib.hid (show mulR K0 K1 (j + 1) v = X from hx3)
                clear hx3 hx
                go_wp2_with fail
                go_roundg (2 - (j + 1))
                case measure => omega
                case rel => exact ⟨j + 1, v, by go_num, rfl, hj2, Nat.le_refl _, hv, HX3, Lib.hid ⟨hb2, hr2⟩⟩
           · obtain rfl : j = 2 := by omega
             have hX2 : X = some u := hx.out.symm
             have hpf := HF.out
             rw [hX2] at hpf
             obtain ⟨hb, hr⟩ := hg.out
             clear hx HF HX HPW HZ HDEB HMM hg hX2
             have hnum := fun w => number_any u w (by omega)
             have hlen : (decDigits u).length ≤ 20 := by rw [decDigits_length]; exact nDigits_le20 u (by omega)
             simp only at hpf
             unfold plainT at hpf
             have hpl := padF_len (decDigits u) k
             obtain ⟨T, hT⟩ : ∃ x, padF (decDigits u) k = x := ⟨_, rfl⟩
             rw [hT] at hpf hpl
             obtain ⟨D, hD⟩ : ∃ x, decDigits u = x := ⟨_, rfl⟩
             rw [hD] at hpf hnum hlen hT
             have htr := fun w => trimR_any D w (by omega)
             obtain ⟨TD, hTD⟩ : ∃ x, trimR D = x := ⟨_, rfl⟩
             rw [hTD] at htr hpf
             have HNUM := Lib.hid hnum
             have HTR := Lib.hid htr
             have HT := Lib.hid hT
             clear hnum htr hT hD hTD
             by_cases h18 : 18 < TD.length
             · have g18 : decide ((18 : Int) < (TD.length : Int)) = true := by simp; omega
               rw [if_pos h18] at hpf
               have HG := Lib.hid hpf
               clear hpf
               go_wp2_with fail
               ((with_reducible refine (HNUM.out _).mono ?_); rintro e w' ⟨rfl, hbw⟩)
               obtain ⟨m3, rfl⟩ := grow_mk hbw
               clear hbw
               go_wp2_with fail
               ((with_reducible refine (HTR.out _).mono ?_); rintro e w' ⟨rfl, rfl⟩)
               go_wp2_with fail
               exact bodyPost_ret (v := .tuple #[.string ⟨#[]⟩, .int .i64 1]) (by simp [results, Tryz.results37, go_sem]) rfl ⟨(by rw [HG.out]; rfl), (below_grow hb m3)⟩
             · have g18 : decide ((18 : Int) < (TD.length : Int)) = false := by simp; omega
               rw [if_neg h18] at hpf
               have HG := Lib.hid hpf
               clear hpf
               go_wp2_with fail
               ((with_reducible refine (HNUM.out _).mono ?_); rintro e w' ⟨rfl, hbw⟩)
               obtain ⟨m3, rfl⟩ := grow_mk hbw
               clear hbw
               replace hb := below_grow hb m3
               replace hr := hr.grow m3
               generalize grow wr m3 = wz at *
               go_wp2_with fail
               ((with_reducible refine (HTR.out _).mono ?_); rintro e w' ⟨rfl, rfl⟩)
               obtain ⟨pb, hpb⟩ : ∃ pb, decide (D.length ≤ k) = pb := ⟨_, rfl⟩
               have gpb : decide ((D.length : Int) ≤ (k : Int)) = pb := by rw [← hpb]; simp
               have HPB := Lib.hid hpb
               go_upto_if 90 with fail
               go_cut [13] from 91 to 98 (fun s wx => s = .string ⟨T.toArray⟩ ∧ ∃ kx : Ext wz, wx = grow wz kx)
               case first =>
                cases pb with
                | true =>
                  have hle : D.length ≤ k := by simpa using HPB.out
                  obtain ⟨c, hc⟩ : ∃ c, k + 1 - D.length = c := ⟨_, rfl⟩
                  have ic : (k : Int) + 1 - (D.length : Int) = (c : Int) := by omega
                  have hre := fun w => repeat_any 48 c w (by omega)
                  have hT2 := HT.out
                  unfold padF at hT2
                  rw [if_pos hle, hc] at hT2
                  have hcat := fun w => run_cat (List.replicate c 48) D (by rw [List.length_replicate]; omega) w
                  rw [hT2] at hcat
                  obtain ⟨R, hR⟩ : ∃ R, List.replicate c (48 : UInt8) = R := ⟨_, rfl⟩
                  rw [hR] at hcat hre
                  have HRE := Lib.hid hre
                  clear hre hT2 hc hR
                  go_wp2_with fail
                  ((with_reducible refine (HRE.out _).mono ?_); rintro e w' ⟨rfl, hbw⟩)
                  obtain ⟨m4, rfl⟩ := grow_mk hbw
                  clear hbw
                  go_wp2_with fail
                  go_meet
                  exact ⟨rfl, m4, rfl⟩
                | false =>
                  have hle : ¬ D.length ≤ k := by simpa using HPB.out
                  have hT2 := HT.out
                  unfold padF at hT2
                  rw [if_neg hle] at hT2
                  subst hT2
                  go_wp2_with fail
                  go_meet
                  exact ⟨rfl, ext_self _⟩
               case rest =>
                obtain ⟨rfl, kx, e⟩ := hcut
                subst e
                replace hb := below_grow hb kx
                replace hr := hr.grow kx
                generalize grow wz kx = wv at *
                have hTl : T.length ≤ 200 := by
                 rw [← HT.out]
                 unfold padF
                 split
                 · rw [List.length_append, List.length_replicate]; omega
                 · omega
                obtain ⟨L, hL⟩ : ∃ L, T.length = L := ⟨_, rfl⟩
                obtain ⟨q, hq⟩ : ∃ q, L - k = q := ⟨_, rfl⟩
                have iq : (L : Int) - (k : Int) = (q : Int) := by omega
                have ex1 : (⟨T.toArray⟩ : ByteArray).extract 0 q = ⟨(T.take q).toArray⟩ := ext_take T q
                have ex2 : (⟨T.toArray⟩ : ByteArray).extract q L = ⟨(T.drop q).toArray⟩ := ext_drop T q hL
                have hAT : k = 0 → T.take q = T := fun h => List.take_of_length_le (by omega)
                have hlA : (T.take q).length ≤ 200 := by rw [List.length_take]; omega
                have hlB : (T.drop q).length ≤ 200 := by rw [List.length_drop]; omega
                have HG2 := HG.out
                rw [hL, hq] at HG2
                obtain ⟨A, hA⟩ : ∃ A, T.take q = A := ⟨_, rfl⟩
                obtain ⟨C, hC⟩ : ∃ C, T.drop q = C := ⟨_, rfl⟩
                rw [hA] at ex1 hlA HG2 hAT
                rw [hC] at ex2 hlB
                try rw [hC] at HG2
                have cA := fun w => run_cat A [46] (by simp; omega) w
                have cAC := fun w => run_cat (A ++ [46]) C (by simp; omega) w
                have cN := fun w => run_cat (A ++ [46] ++ C) [48] (by simp; omega) w
                have cS1 := fun w => run_cat [45] (A ++ [46] ++ C) (by simp; omega) w
                have cS2 := fun w => run_cat [45] (A ++ [46] ++ C ++ [48]) (by simp; omega) w
                have cS3 := fun w => run_cat [45] T (by simp; omega) w
                simp only [List.append_assoc, List.cons_append, List.nil_append] at cA cAC cN cS1 cS2 cS3
                have HH := Lib.hid HG2
                have HAT := Lib.hid hAT
                have gq1 : (0 : Int) ≤ (q : Int) := by omega
                have gq2 : q ≤ L := by omega
                clear HG2 hAT hA hC HG HT HPB hq
                have cr0 : wv.cell? ⟨w.heap.size, 0, none⟩ = some (.int .i64 a) := (hr).cell 0
                have fcr0 := (hr).frozen 0
                have cr1 : wv.cell? ⟨w.heap.size, 1, none⟩ = some (.int .i64 d) := (hr).cell 1
                have fcr1 := (hr).frozen 1
                have lcr := (hr).lt
                by_cases hneg : a < 0
                · have gneg : decide (a < (0 : Int)) = true := by simpa using hneg
                  by_cases hk0 : k = 0
                  · have gk0 : ((k : Int) == 0) = true := by rw [beq_iff_eq]; omega
                    have HK0 := Lib.hid hk0
                    clear hk0
                    go_wp2_with fail
                    try go_region
                    all_goals
                     go_wp2_with fail
                     first
                      | (refine bodyPost_ret (v := .tuple #[.string ⟨([45] ++ (A ++ [46] ++ C ++ [48])).toArray⟩, .int .i64 0]) ?_ rfl ⟨?_, Below.drew hb⟩; (focus (simp [results, Tryz.results37, go_sem]; done)); (focus (rw [HH.out]; first | done | (simp only [gneg]; first | done | (simp [outP, HK0.out]; done)))))
                      | (refine bodyPost_ret (v := .tuple #[.string ⟨([45] ++ (A ++ [46] ++ C ++ [48])).toArray⟩, .int .i64 0]) ?_ rfl ⟨?_, hb⟩; (focus (simp [results, Tryz.results37, go_sem]; done)); (focus (rw [HH.out]; first | done | (simp only [gneg]; first | done | (simp [outP, HK0.out]; done)))))
                      | (refine bodyPost_ret (v := .tuple #[.string ⟨([45] ++ T).toArray⟩, .int .i64 0]) ?_ rfl ⟨?_, Below.drew hb⟩; (focus (simp [results, Tryz.results37, go_sem]; done)); (focus (rw [HH.out]; first | done | (simp only [gneg]; first | done | (simp [outP, HAT.out HK0.out]; done)))))
                      | (refine bodyPost_ret (v := .tuple #[.string ⟨([45] ++ T).toArray⟩, .int .i64 0]) ?_ rfl ⟨?_, hb⟩; (focus (simp [results, Tryz.results37, go_sem]; done)); (focus (rw [HH.out]; first | done | (simp only [gneg]; first | done | (simp [outP, HAT.out HK0.out]; done)))))
                  · have gk0 : ((k : Int) == 0) = false := by rw [beq_eq_false_iff_ne]; omega
                    have HK0 := Lib.hid hk0
                    clear hk0
                    go_wp2_with fail
                    try go_region
                    all_goals
                     go_wp2_with fail
                     first
                      | exact absurd (HWK.out rfl) HK0.out
                      | exact absurd (HWK.out trivial) HK0.out
                      | (refine bodyPost_ret (v := .tuple #[.string ⟨([45] ++ (A ++ [46] ++ C)).toArray⟩, .int .i64 0]) ?_ rfl ⟨?_, Below.drew hb⟩; (focus (simp [results, Tryz.results37, go_sem]; done)); (focus (rw [HH.out]; first | done | (simp only [gneg]; first | done | (simp [outP, HK0.out]; done)))))
                      | (refine bodyPost_ret (v := .tuple #[.string ⟨([45] ++ (A ++ [46] ++ C)).toArray⟩, .int .i64 0]) ?_ rfl ⟨?_, hb⟩; (focus (simp [results, Tryz.results37, go_sem]; done)); (focus (rw [HH.out]; first | done | (simp only [gneg]; first | done | (simp [outP, HK0.out]; done)))))
                · have gneg : decide (a < (0 : Int)) = false := by simpa using hneg
                  by_cases hk0 : k = 0
                  · have gk0 : ((k : Int) == 0) = true := by rw [beq_iff_eq]; omega
                    have HK0 := Lib.hid hk0
                    clear hk0
                    go_wp2_with fail
                    try go_region
                    all_goals
                     go_wp2_with fail
                     first
                      | (refine bodyPost_ret (v := .tuple #[.string ⟨(A ++ [46] ++ C ++ [48]).toArray⟩, .int .i64 0]) ?_ rfl ⟨?_, Below.drew hb⟩; (focus (simp [results, Tryz.results37, go_sem]; done)); (focus (rw [HH.out]; first | done | (simp only [gneg]; first | done | (simp [outP, HK0.out]; done)))))
                      | (refine bodyPost_ret (v := .tuple #[.string ⟨(A ++ [46] ++ C ++ [48]).toArray⟩, .int .i64 0]) ?_ rfl ⟨?_, hb⟩; (focus (simp [results, Tryz.results37, go_sem]; done)); (focus (rw [HH.out]; first | done | (simp only [gneg]; first | done | (simp [outP, HK0.out]; done)))))
                      | (refine bodyPost_ret (v := .tuple #[.string ⟨(T).toArray⟩, .int .i64 0]) ?_ rfl ⟨?_, Below.drew hb⟩; (focus (simp [results, Tryz.results37, go_sem]; done)); (focus (rw [HH.out]; first | done | (simp only [gneg]; first | done | (simp [outP, HAT.out HK0.out]; done)))))
                      | (refine bodyPost_ret (v := .tuple #[.string ⟨(T).toArray⟩, .int .i64 0]) ?_ rfl ⟨?_, hb⟩; (focus (simp [results, Tryz.results37, go_sem]; done)); (focus (rw [HH.out]; first | done | (simp only [gneg]; first | done | (simp [outP, HAT.out HK0.out]; done)))))
                  · have gk0 : ((k : Int) == 0) = false := by rw [beq_eq_false_iff_ne]; omega
                    have HK0 := Lib.hid hk0
                    clear hk0
                    go_wp2_with fail
                    try go_region
                    all_goals
                     go_wp2_with fail
                     first
                      | exact absurd (HWK.out rfl) HK0.out
                      | exact absurd (HWK.out trivial) HK0.out
                      | (refine bodyPost_ret (v := .tuple #[.string ⟨(A ++ [46] ++ C).toArray⟩, .int .i64 0]) ?_ rfl ⟨?_, Below.drew hb⟩; (focus (simp [results, Tryz.results37, go_sem]; done)); (focus (rw [HH.out]; first | done | (simp only [gneg]; first | done | (simp [outP, HK0.out]; done)))))
                      | (refine bodyPost_ret (v := .tuple #[.string ⟨(A ++ [46] ++ C).toArray⟩, .int .i64 0]) ?_ rfl ⟨?_, hb⟩; (focus (simp [results, Tryz.results37, go_sem]; done)); (focus (rw [HH.out]; first | done | (simp only [gneg]; first | done | (simp [outP, HK0.out]; done)))))
       · rw [if_neg hm1] at hpl
         have HF := Lib.hid hpl
         rw [show decide (m = 1) = false by simpa using hm1] at hpw
         have HPW := Lib.hid hpw
         have HZ := Lib.hid hz
         clear hz hpw hpl HS HPF hK0 hK1 hk hn hd m2 m5 hm1 hs hm hmp
         cases whole
         all_goals
          first | (have gw2 := gw rfl) | skip
          clear gw
          go_enter Tryz.func37, Tryz.ntmps37
          go_wp2_with fail
          ((with_reducible refine (HMM.out _).mono ?_); rintro e w' ⟨rfl, hbw⟩)
          obtain ⟨m1, rfl⟩ := grow_mk hbw
          clear hbw
          have hr := (Blk.new w 24 #[.int .i64 a, .int .i64 d]).grow m1
          have hb : Below w.heap.size w (grow (w.alloc (.cells #[.int .i64 a, .int .i64 d] 24)) m1) := below_grow (below_box _ _) m1
          generalize grow _ m1 = wa at *
          have HDW := Lib.hid (HDEB.out.below hb)
          have cr0 : wa.cell? ⟨w.heap.size, 0, none⟩ = some (.int .i64 a) := (hr).cell 0
          have fcr0 := (hr).frozen 0
          have cr1 : wa.cell? ⟨w.heap.size, 1, none⟩ = some (.int .i64 d) := (hr).cell 1
          have fcr1 := (hr).frozen 1
          have lcr := (hr).lt
          go_wp2_with fail
          ((with_reducible refine (HPW.out _ HDW.out).mono ?_); rintro e w' ⟨rfl, hbw⟩)
          obtain ⟨m2, rfl⟩ := grow_mk hbw
          clear hbw
          go_wp2_with fail
          exact bodyPost_ret (v := .tuple #[.string ⟨#[]⟩, .int .i64 1]) (by simp [results, Tryz.results37, go_sem]) rfl ⟨(by rw [HF.out]; rfl), (below_grow hb m2)⟩
end Go.Proofs.YtplnhjmomomphaaGreatDoor
