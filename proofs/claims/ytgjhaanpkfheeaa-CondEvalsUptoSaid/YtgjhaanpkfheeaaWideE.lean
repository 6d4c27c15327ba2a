/- The reference's fraction of a sign and two numbers of 128 bits. -/
import Derived.Test.YtgjhaanpkfheeaaWideD
namespace Go.Proofs.Ytgjhaanpkfheeaa
set_option linter.unusedVariables false
set_option linter.unusedSimpArgs false
open Go.RowKit

set_option maxHeartbeats 400000 in
theorem over_any (w : World) : Calls Try.prog 79 #[] w fun e w' => e = .returned (.agg #[.int .i64 0, .int .i64 0]) ∧ Below w.heap.size w w' := by
  go_enter Try.func79, Try.ntmps79
  go_wp2
  exact bodyPost_ret (v := .agg #[.int .i64 0, .int .i64 0]) (by simp [results, Try.results79, go_sem]) rfl ⟨rfl, below_box _ _⟩

theorem fracOf_over (neg : Bool) (n d : Nat) (h : d = 0 ∨ maxI < n / Nat.gcd n d ∨ maxI < d / Nat.gcd n d) : fracOf neg n d = (0, 0) := by
  unfold fracOf; rw [if_pos h]
theorem fracOf_fits (neg : Bool) (n d : Nat) (h1 : d ≠ 0) (h2 : n / Nat.gcd n d ≤ maxI) (h3 : d / Nat.gcd n d ≤ maxI) : fracOf neg n d = (if neg then -((n / Nat.gcd n d : Nat) : Int) else ((n / Nat.gcd n d : Nat) : Int), ((d / Nat.gcd n d : Nat) : Int)) := by
  unfold fracOf; rw [if_neg (by omega)]

/-- the variables of the reference's 'made' -/
structure Gm (w0 wr : World) (t tr nh nl dh dl : Nat) : Prop where
  below : Below w0.heap.size w0 wr
  n : Blk wr w0.heap.size t #[.int .u64 nh, .int .u64 nl]
  d : Blk wr (w0.heap.size + 1) t #[.int .u64 dh, .int .u64 dl]
  o : Blk wr (w0.heap.size + 1 + 1) tr #[.int .i64 0, .int .i64 0]
section
variable {w0 wr : World} {t tr nh nl dh dl : Nat}
theorem Gm.start (w0 : World) (t tr nh nl dh dl : Nat) : Gm w0 (((w0.alloc (.cells #[.int .u64 nh, .int .u64 nl] t)).alloc (.cells #[.int .u64 dh, .int .u64 dl] t)).alloc (.cells #[.int .i64 0, .int .i64 0] tr)) t tr nh nl dh dl := by
  have k1 := Blk.new w0 t #[.int .u64 nh, .int .u64 nl]
  have k2 := Blk.new (w0.alloc (.cells #[.int .u64 nh, .int .u64 nl] t)) t #[.int .u64 dh, .int .u64 dl]
  have k3 := Blk.new ((w0.alloc (.cells #[.int .u64 nh, .int .u64 nl] t)).alloc (.cells #[.int .u64 dh, .int .u64 dl] t)) tr #[.int .i64 0, .int .i64 0]
  simp only [World.size_alloc] at k2 k3
  exact ⟨((below_box _ _).alloc (by first | omega | (simp; done) | (simp; omega)) _).alloc (by first | omega | (simp; done) | (simp; omega)) _, (k1.old _).old _, k2.old _, k3⟩
theorem Gm.grow (h : Gm w0 wr t tr nh nl dh dl) (m : Ext wr) : Gm w0 (grow wr m) t tr nh nl dh dl := ⟨below_grow h.below m, h.n.grow m, h.d.grow m, h.o.grow m⟩
theorem Gm.old (h : Gm w0 wr t tr nh nl dh dl) (o : Obj) : Gm w0 (wr.alloc o) t tr nh nl dh dl := ⟨h.below.alloc h.below.size o, h.n.old o, h.d.old o, h.o.old o⟩
theorem Gm.setN (h : Gm w0 wr t tr nh nl dh dl) {p q : Int} {x y : Nat} (e1 : p = x) (e2 : q = y) :
    Gm w0 ((wr.setCell ⟨w0.heap.size, 0, none⟩ (.int .u64 p)).setCell ⟨w0.heap.size, 1, none⟩ (.int .u64 q)) t tr x y dh dl := by
  subst e1; subst e2
  exact ⟨(h.below.setCell (by first | omega | (simp; done) | (simp; omega)) _).setCell (by first | omega | (simp; done) | (simp; omega)) _, h.n.put2 _ _, h.d.far2 (by omega) _ _ _ _, h.o.far2 (by omega) _ _ _ _⟩
theorem Gm.setD (h : Gm w0 wr t tr nh nl dh dl) {p q : Int} {x y : Nat} (e1 : p = x) (e2 : q = y) :
    Gm w0 ((wr.setCell ⟨w0.heap.size + 1, 0, none⟩ (.int .u64 p)).setCell ⟨w0.heap.size + 1, 1, none⟩ (.int .u64 q)) t tr nh nl x y := by
  subst e1; subst e2
  exact ⟨(h.below.setCell (by first | omega | (simp; done) | (simp; omega)) _).setCell (by first | omega | (simp; done) | (simp; omega)) _, h.n.far2 (by omega) _ _ _ _, h.d.put2 _ _, h.o.far2 (by omega) _ _ _ _⟩
end

set_option maxHeartbeats 1000000 in
theorem wmade_any (neg : Bool) (nh nl dh dl : Nat) (h1 : nh < 18446744073709551616) (h2 : nl < 18446744073709551616) (h3 : dh < 18446744073709551616) (h4 : dl < 18446744073709551616) (h6 : wn dh dl ≤ 170141183460469231731687303715884105728) (w : World) :
    Calls Try.prog 67 #[.bool neg, wv nh nl, wv dh dl] w fun e w' => e = .returned (rv (fracOf neg (wn nh nl) (wn dh dl))) ∧ Below w.heap.size w w' := by
  by_cases c0 : dh = 0 ∧ dl = 0
  · have HC := Lib.hid (show decide (dh = 0 ∧ dl = 0) = true by simpa using c0)
    have HF := Lib.hid (fracOf_over neg (wn nh nl) (wn dh dl) (Or.inl (by rw [c0.1, c0.2]; rfl)))
    clear c0 h6
    rw [HF.out]
    unfold wv rv
    go_enter Try.func67, Try.ntmps67
    go_wp2_with fail
    ((with_reducible refine (none_any dh dl _).mono ?_); rintro e w' ⟨rfl, hbw⟩)
    obtain ⟨m1, rfl⟩ := grow_mk hbw
    clear hbw
    rw [HC.out]
    go_wp2_with fail
    ((with_reducible refine (over_any _).mono ?_); rintro e w' ⟨rfl, hbw⟩)
    obtain ⟨m2, rfl⟩ := grow_mk hbw
    clear hbw
    go_wp2_with fail
    exact bodyPost_ret (v := .agg #[.int .i64 0, .int .i64 0]) (by simp [results, Try.results67, go_sem]) rfl ⟨rfl, ((below_grow (below_grow (((below_box _ _).alloc (by first | omega | (simp; done) | (simp; omega)) _).alloc (by first | omega | (simp; done) | (simp; omega)) _) m1) m2).setCell (by first | omega | (simp; done) | (simp; omega)) _).setCell (by first | omega | (simp; done) | (simp; omega)) _⟩
  · have HC := Lib.hid (show decide (dh = 0 ∧ dl = 0) = false by simpa using c0)
    have hD : wn dh dl ≠ 0 := by unfold wn; omega
    have hgp : 0 < Nat.gcd (wn nh nl) (wn dh dl) := Nat.gcd_pos_of_pos_right _ (by omega)
    have hgl : Nat.gcd (wn nh nl) (wn dh dl) ≤ wn dh dl := Nat.gcd_le_right _ (by omega)
    obtain ⟨g, hg⟩ : ∃ g, g = Nat.gcd (wn nh nl) (wn dh dl) := ⟨_, rfl⟩
    rw [← hg] at hgp hgl
    have hcg := fun w => wgcd_any nh nl dh dl h1 h2 h3 h4 hD w
    rw [← hg] at hcg
    obtain ⟨gh, hgh⟩ : ∃ x, x = g / 18446744073709551616 := ⟨_, rfl⟩
    obtain ⟨gl, hgl2⟩ : ∃ x, x = g % 18446744073709551616 := ⟨_, rfl⟩
    rw [← hgh, ← hgl2] at hcg
    have eg : wn gh gl = g := by unfold wn; omega
    have g1 : gh < 18446744073709551616 := by unfold wn at hgl; omega
    have g2 : gl < 18446744073709551616 := by omega
    have hcn := fun w => wdiv_any nh nl gh gl h1 h2 g1 g2 (by omega) (by omega) w
    have hcd := fun w => wdiv_any dh dl gh gl h3 h4 g1 g2 (by omega) (by omega) w
    rw [eg] at hcn hcd
    have bn : wn nh nl / g ≤ wn nh nl := Nat.div_le_self _ _
    have bd : wn dh dl / g ≤ wn dh dl := Nat.div_le_self _ _
    have HO := fracOf_over neg (wn nh nl) (wn dh dl)
    have HF := fracOf_fits neg (wn nh nl) (wn dh dl) hD
    rw [← hg] at HO HF
    obtain ⟨N, hN⟩ : ∃ x, x = wn nh nl / g := ⟨_, rfl⟩
    obtain ⟨D, hDD⟩ : ∃ x, x = wn dh dl / g := ⟨_, rfl⟩
    rw [← hN] at hcn HO HF bn
    rw [← hDD] at hcd HO HF bd
    obtain ⟨qh, hqh⟩ : ∃ x, x = N / 18446744073709551616 := ⟨_, rfl⟩
    obtain ⟨ql, hql⟩ : ∃ x, x = N % 18446744073709551616 := ⟨_, rfl⟩
    obtain ⟨rh, hrh⟩ : ∃ x, x = D / 18446744073709551616 := ⟨_, rfl⟩
    obtain ⟨rl, hrl⟩ : ∃ x, x = D % 18446744073709551616 := ⟨_, rfl⟩
    rw [← hqh, ← hql] at hcn
    rw [← hrh, ← hrl] at hcd
    have q1 : qh < 18446744073709551616 := by unfold wn at bn; omega
    have q2 : ql < 18446744073709551616 := by omega
    have r1 : rh < 18446744073709551616 := by unfold wn at bd; omega
    have r2 : rl < 18446744073709551616 := by omega
    have HQ := Lib.hid (show N = qh * 18446744073709551616 + ql by omega)
    have HR := Lib.hid (show D = rh * 18446744073709551616 + rl by omega)
    have HO' := Lib.hid HO; have HF' := Lib.hid HF
    have HCG := Lib.hid hcg; have HCN := Lib.hid hcn; have HCD := Lib.hid hcd
    clear hg hgp hgl hgh hgl2 eg hqh hql hrh hrl hN hDD bn bd HO HF hcg hcn hcd hD h6 c0 g1 g2
    generalize fracOf neg (wn nh nl) (wn dh dl) = res at *
    unfold wv
    go_enter Try.func67, Try.ntmps67
    go_wp2_with fail
    ((with_reducible refine (none_any dh dl _).mono ?_); rintro e w' ⟨rfl, hbw⟩)
    obtain ⟨m1, rfl⟩ := grow_mk hbw
    clear hbw
    rw [HC.out]
    go_upto_region 3 with fail
    go_cut [7] (fun s wx => ∃ g7 : Nat, s = .pointer (some ⟨g7, 0, none⟩) ∧ Gm w wx 81 23 nh nl dh dl ∧ Blk wx g7 81 #[.int .u64 gh, .int .u64 gl] ∧ w.heap.size + 1 + 1 < g7)
    case first =>
      go_wp2_with fail
      ((with_reducible refine (HCG.out _).mono ?_); rintro e w' ⟨rfl, hbw⟩)
      obtain ⟨m2, rfl⟩ := grow_mk hbw
      clear hbw
      go_wp2_with fail
      go_meet
      case rel =>
        have k := ((Gm.start w 81 23 nh nl dh dl).grow m1).grow m2
        exact ⟨_, rfl, k.old _, Blk.new _ _ _, k.o.lt⟩
    case rest =>
      obtain ⟨wr, rfl⟩ : ∃ wr, wr = wc := ⟨_, rfl⟩
      obtain ⟨g7, rfl, hg, hb7, l7⟩ := hcut
      have cn0 : wr.cell? ⟨w.heap.size, 0, none⟩ = some (.int .u64 nh) := hg.n.cell 0
      have cn1 : wr.cell? ⟨w.heap.size, 1, none⟩ = some (.int .u64 nl) := hg.n.cell 1
      have cd0 : wr.cell? ⟨w.heap.size + 1, 0, none⟩ = some (.int .u64 dh) := hg.d.cell 0
      have cd1 : wr.cell? ⟨w.heap.size + 1, 1, none⟩ = some (.int .u64 dl) := hg.d.cell 1
      have cg0 : wr.cell? ⟨g7, 0, none⟩ = some (.int .u64 gh) := hb7.cell 0
      have cg1 : wr.cell? ⟨g7, 1, none⟩ = some (.int .u64 gl) := hb7.cell 1
      have fn0 := hg.n.frozen 0
      have fn1 := hg.n.frozen 1
      have fd0 := hg.d.frozen 0
      have fd1 := hg.d.frozen 1
      have ln := hg.n.lt
      have ld := hg.d.lt
      have lg := hb7.lt
      go_upto_region 4 with fail
      go_cut [17] (fun s wx => Gm w wx 81 23 qh ql rh rl)
      case first =>
        refine wp_region_last 6 _ (by kernel_rfl) rfl (by kernel_rfl) (by kernel_rfl) ?_
        simp only [headOf, hush, List.take_succ_cons, List.take_zero, List.cons_append, List.nil_append, List.drop_succ_cons, List.drop_zero]
        repeat (go_big_quiet_step ((first | (go_at_call 99; with_reducible exact calls_grow (HCN.out _)) | (go_at_call 99; with_reducible exact calls_grow (HCD.out _)))))
        refine wpQuiet_nil ?_
        rintro _ ⟨m, rfl⟩
        go_wp2_with fail
        go_meet
        case rel => exact ((hg.grow m).setN rfl rfl).setD rfl rfl
      case rest =>
        clear hg hb7 l7 cn0 cn1 cd0 cd1 cg0 cg1 fn0 fn1 fd0 fd1 ln ld lg
        obtain ⟨wr, rfl⟩ : ∃ wr, wr = wc := ⟨_, rfl⟩
        have hg := hcut
        clear hcut
        have cn0 : wr.cell? ⟨w.heap.size, 0, none⟩ = some (.int .u64 qh) := hg.n.cell 0
        have cn1 : wr.cell? ⟨w.heap.size, 1, none⟩ = some (.int .u64 ql) := hg.n.cell 1
        have cd0 : wr.cell? ⟨w.heap.size + 1, 0, none⟩ = some (.int .u64 rh) := hg.d.cell 0
        have cd1 : wr.cell? ⟨w.heap.size + 1, 1, none⟩ = some (.int .u64 rl) := hg.d.cell 1
        have co0 : wr.cell? ⟨w.heap.size + 1 + 1, 0, none⟩ = some (.int .i64 0) := hg.o.cell 0
        have co1 : wr.cell? ⟨w.heap.size + 1 + 1, 1, none⟩ = some (.int .i64 0) := hg.o.cell 1
        have fo0 := hg.o.frozen 0
        have fo1 := hg.o.frozen 1
        have lo := hg.o.lt
        by_cases a1 : ¬ qh = 0
        · have t1 : ¬ qh = 0 := a1
          have HRes := Lib.hid (HO'.out (Or.inr (Or.inl (by rw [HQ.out]; unfold maxI; omega))))
          clear a1
          go_wp2_with fail
          ((with_reducible refine (over_any _).mono ?_); rintro e w' ⟨rfl, hbw⟩)
          obtain ⟨m3, rfl⟩ := grow_mk hbw
          clear hbw
          go_wp2_with fail
          exact bodyPost_ret (v := .agg #[.int .i64 0, .int .i64 0]) (by simp [results, Try.results67, go_sem, co0, co1, fo0, fo1, lo]) rfl ⟨by rw [HRes.out], ((below_grow hg.below m3).setCell (by first | omega | (simp; done) | (simp; omega)) _).setCell (by first | omega | (simp; done) | (simp; omega)) _⟩
        obtain rfl : qh = 0 := by omega
        by_cases a2 : ¬ rh = 0
        · have t2 : ¬ rh = 0 := a2
          have HRes := Lib.hid (HO'.out (Or.inr (Or.inr (by rw [HR.out]; unfold maxI; omega))))
          clear a2 a1
          go_wp2_with fail
          ((with_reducible refine (over_any _).mono ?_); rintro e w' ⟨rfl, hbw⟩)
          obtain ⟨m3, rfl⟩ := grow_mk hbw
          clear hbw
          go_wp2_with fail
          exact bodyPost_ret (v := .agg #[.int .i64 0, .int .i64 0]) (by simp [results, Try.results67, go_sem, co0, co1, fo0, fo1, lo]) rfl ⟨by rw [HRes.out], ((below_grow hg.below m3).setCell (by first | omega | (simp; done) | (simp; omega)) _).setCell (by first | omega | (simp; done) | (simp; omega)) _⟩
        obtain rfl : rh = 0 := by omega
        by_cases a3 : 9223372036854775807 < ql
        · have t3 : decide ((9223372036854775807 : Int) < (ql : Int)) = true := by simp; omega
          have HRes := Lib.hid (HO'.out (Or.inr (Or.inl (by rw [HQ.out]; unfold maxI; omega))))
          clear a3 a2 a1
          go_wp2_with fail
          ((with_reducible refine (over_any _).mono ?_); rintro e w' ⟨rfl, hbw⟩)
          obtain ⟨m3, rfl⟩ := grow_mk hbw
          clear hbw
          go_wp2_with fail
          exact bodyPost_ret (v := .agg #[.int .i64 0, .int .i64 0]) (by simp [results, Try.results67, go_sem, co0, co1, fo0, fo1, lo]) rfl ⟨by rw [HRes.out], ((below_grow hg.below m3).setCell (by first | omega | (simp; done) | (simp; omega)) _).setCell (by first | omega | (simp; done) | (simp; omega)) _⟩
        have t3 : decide ((9223372036854775807 : Int) < (ql : Int)) = false := by simp; omega
        by_cases a4 : 9223372036854775807 < rl
        · have t4 : decide ((9223372036854775807 : Int) < (rl : Int)) = true := by simp; omega
          have HRes := Lib.hid (HO'.out (Or.inr (Or.inr (by rw [HR.out]; unfold maxI; omega))))
          clear a4 a3 a2 a1
          go_wp2_with fail
          ((with_reducible refine (over_any _).mono ?_); rintro e w' ⟨rfl, hbw⟩)
          obtain ⟨m3, rfl⟩ := grow_mk hbw
          clear hbw
          go_wp2_with fail
          exact bodyPost_ret (v := .agg #[.int .i64 0, .int .i64 0]) (by simp [results, Try.results67, go_sem, co0, co1, fo0, fo1, lo]) rfl ⟨by rw [HRes.out], ((below_grow hg.below m3).setCell (by first | omega | (simp; done) | (simp; omega)) _).setCell (by first | omega | (simp; done) | (simp; omega)) _⟩
        have t4 : decide ((9223372036854775807 : Int) < (rl : Int)) = false := by simp; omega
        have HRes := Lib.hid (HF'.out (by rw [HQ.out]; unfold maxI; omega) (by rw [HR.out]; unfold maxI; omega))
        have HQ2 := Lib.hid (show N = ql by have := HQ.out; omega)
        have HR2 := Lib.hid (show D = rl by have := HR.out; omega)
        have b1 : (ql : Int) ≤ 9223372036854775807 := by omega
        have b2 : (rl : Int) ≤ 9223372036854775807 := by omega
        clear a4 a3 a2 a1
        cases neg
        · go_wp2_with fail
          exact bodyPost_ret (v := .agg #[.int .i64 ql, .int .i64 rl]) (by simp [results, Try.results67, go_sem, co0, co1, fo0, fo1, lo]) rfl ⟨by rw [HRes.out, HQ2.out, HR2.out]; rfl, (hg.below.setCell (by first | omega | (simp; done) | (simp; omega)) _).setCell (by first | omega | (simp; done) | (simp; omega)) _⟩
        · go_wp2_with fail
          exact bodyPost_ret (v := .agg #[.int .i64 (-(ql : Int)), .int .i64 rl]) (by simp [results, Try.results67, go_sem, co0, co1, fo0, fo1, lo]) rfl ⟨by rw [HRes.out, HQ2.out, HR2.out]; rfl, (hg.below.setCell (by first | omega | (simp; done) | (simp; omega)) _).setCell (by first | omega | (simp; done) | (simp; omega)) _⟩

end Go.Proofs.Ytgjhaanpkfheeaa
