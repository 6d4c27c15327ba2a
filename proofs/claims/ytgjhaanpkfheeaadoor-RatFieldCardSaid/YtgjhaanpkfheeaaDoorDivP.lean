/- The quotient of two fractions, in the program and in the reference. -/
import Derived.Test.YtgjhaanpkfheeaaDoorMulP
import Derived.Test.YtgjhaanpkfheeaaDoorMulR
import Derived.Test.YtgjhaanpkfheeaaDoorRatsC
namespace Go.Proofs.YtgjhaanpkfheeaaDoor
set_option linter.unusedVariables false
set_option linter.unusedSimpArgs false
open Go.RowKit

/-- the quotient -/
def divF (a b : Rt) : Rt := if sureB a && sureB b && b.1 != 0 then fracOf (neg2 a.1 b.1) (a.1.natAbs * b.2.toNat) (a.2.toNat * b.1.natAbs) else (0, 0)
/-- the fraction turned upside down -/
def turnF (b : Rt) : Rt := if b.1 < 0 then (-b.2, -b.1) else (b.2, b.1)

theorem turn_sure {b : Rt} (h : sureB b = true) (h64 : Is64 b) (h0 : b.1 ≠ 0) : sureB (turnF b) = true ∧ Is64 (turnF b) := by
  obtain ⟨n, d⟩ := b
  obtain ⟨b1, b2, b3, b4⟩ := h64
  obtain ⟨s1, s2, s3⟩ := sureB_iff.1 h
  simp only at *
  rw [sureB_iff]
  unfold turnF
  by_cases hn : n < 0
  · rw [if_pos hn]
    refine ⟨⟨by show 1 ≤ -n; omega, by show -d ≠ _; omega, ?_⟩, ⟨by show _ ≤ -d; omega, by show -d ≤ _; omega, by show _ ≤ -n; omega, by show -n ≤ _; omega⟩⟩
    show Nat.gcd (-d).natAbs (-n).toNat = 1
    rw [Nat.gcd_comm, show (-n).toNat = n.natAbs by omega, show (-d).natAbs = d.toNat by omega]; exact s3
  · rw [if_neg hn]
    refine ⟨⟨by show 1 ≤ n; omega, by show d ≠ _; omega, ?_⟩, ⟨by show _ ≤ d; omega, by show d ≤ _; omega, by show _ ≤ n; omega, by show n ≤ _; omega⟩⟩
    show Nat.gcd d.natAbs n.toNat = 1
    rw [Nat.gcd_comm, show n.toNat = n.natAbs by omega, show d.natAbs = d.toNat by omega]; exact s3

theorem div_fold (a b : Rt) (h : sureB b = true) (h64 : Is64 b) (h0 : b.1 ≠ 0) : foldR mulF (1, 1) [a, turnF b] = divF a b := by
  obtain ⟨t1, _⟩ := turn_sure h h64 h0
  show (if sureB a then (if sureB a && sureB (turnF b) then mulF a (turnF b) else (0, 0)) else (0, 0)) = _
  unfold divF
  rw [t1, h]
  have hb : (b.1 != 0) = true := by simpa using h0
  rw [hb]
  cases sureB a with
  | false => rfl
  | true =>
    show mulF a (turnF b) = fracOf _ _ _
    obtain ⟨n, d⟩ := b
    obtain ⟨b1, b2, b3, b4⟩ := h64
    have s1 := sureB_den h
    simp only at *
    unfold mulF turnF
    by_cases hn : n < 0
    · rw [if_pos hn]
      show fracOf (neg2 a.1 (-d)) (a.1.natAbs * (-d).natAbs) (a.2.toNat * (-n).toNat) = _
      rw [show (-n).toNat = n.natAbs by omega, show (-d).natAbs = d.toNat by omega]
      congr 1
      unfold neg2
      rw [show decide (-d < 0) = decide (n < 0) by rw [Bool.eq_iff_iff]; simp; omega]
    · rw [if_neg hn]
      show fracOf (neg2 a.1 d) (a.1.natAbs * d.natAbs) (a.2.toNat * n.toNat) = _
      rw [show n.toNat = n.natAbs by omega, show d.natAbs = d.toNat by omega]
      congr 1
      unfold neg2
      rw [show decide (d < 0) = decide (n < 0) by rw [Bool.eq_iff_iff]; simp; omega]

theorem mul_two (W : World) (t : TypeId) (k : Nat) (hk : W.heap.size = k) (x y : Rt) (hx : Is64 x) (hy : Is64 y) :
    Calls Tryd.prog 10 #[.slice (some ⟨k, 0, none⟩) 2 2] (W.alloc (.cells #[.int .i64 x.1, .int .i64 x.2, .int .i64 y.1, .int .i64 y.2] t)) fun e w' => e = .returned (rv (foldR mulF (1, 1) [x, y])) ∧ Below (W.alloc (.cells #[.int .i64 x.1, .int .i64 x.2, .int .i64 y.1, .int .i64 y.2] t)).heap.size (W.alloc (.cells #[.int .i64 x.1, .int .i64 x.2, .int .i64 y.1, .int .i64 y.2] t)) w' := by
  subst hk; exact mul_any _ (rats_two W t x y hx hy)

set_option maxHeartbeats 2000000 in
theorem div_any (a b : Rt) (w : World) (ha : Is64 a) (hb : Is64 b) :
    Calls Tryd.prog 13 #[rv a, rv b] w fun e w' => e = .returned (rv (divF a b)) ∧ Below w.heap.size w w' := by
  have ht := fun w => sure_any b w hb
  cases c2 : sureB b with
  | false =>
    rw [c2] at ht
    have HF := Lib.hid (show divF a b = (0, 0) by unfold divF; rw [c2, Bool.and_false, Bool.false_and]; rfl)
    obtain ⟨n, d⟩ := a; obtain ⟨p, q⟩ := b
    have HT := Lib.hid ht
    clear ht c2
    go_enter Tryd.func13, Tryd.ntmps13
    go_wp2_with fail
    ((with_reducible refine (HT.out _).mono ?_); rintro e w' ⟨rfl, hbw⟩)
    obtain ⟨m, rfl⟩ := grow_mk hbw
    clear hbw
    go_wp2_with fail
    exact bodyPost_ret (v := .agg #[.int .i64 0, .int .i64 0]) (by simp [results, Tryd.results13, go_sem]) rfl ⟨(by rw [HF.out]), ((below_grow (((below_box _ _).alloc (by simp) _).alloc (by simp; omega) _) m).setCell (by first | omega | (simp; done) | (simp; omega)) _).setCell (by first | omega | (simp; done) | (simp; omega)) _⟩
  | true =>
    rw [c2] at ht
    have HT := Lib.hid ht
    by_cases h0 : b.1 = 0
    · have HF := Lib.hid (show divF a b = (0, 0) by unfold divF; rw [h0]; simp)
      obtain ⟨n, d⟩ := a; obtain ⟨p, q⟩ := b
      simp only at h0
      subst h0
      clear ht c2
      go_enter Tryd.func13, Tryd.ntmps13
      go_wp2_with fail
      ((with_reducible refine (HT.out _).mono ?_); rintro e w' ⟨rfl, hbw⟩)
      obtain ⟨m, rfl⟩ := grow_mk hbw
      clear hbw
      go_wp2_with fail
      exact bodyPost_ret (v := .agg #[.int .i64 0, .int .i64 0]) (by simp [results, Tryd.results13, go_sem]) rfl ⟨(by rw [HF.out]), ((below_grow (((below_box _ _).alloc (by simp) _).alloc (by simp; omega) _) m).setCell (by first | omega | (simp; done) | (simp; omega)) _).setCell (by first | omega | (simp; done) | (simp; omega)) _⟩
    · have HF := Lib.hid (div_fold a b c2 hb h0)
      obtain ⟨_, t64⟩ := turn_sure c2 hb h0
      have hm := fun W k hk => mul_two W 23 k hk a (turnF b) ha t64
      rw [HF.out] at hm
      generalize divF a b = R at *
      obtain ⟨u, v⟩ := R
      obtain ⟨n, d⟩ := a; obtain ⟨p, q⟩ := b
      simp only at h0
      have g1 : (p == 0) = false := by simpa using h0
      obtain ⟨b5, b6, b7, b8⟩ := hb
      have q1 := sureB_den c2
      have p1 := sureB_num c2
      simp only at b5 b6 b7 b8 q1 p1
      unfold turnF at hm
      simp only at hm
      by_cases hp : p < 0
      · rw [if_pos hp] at hm
        have HM := Lib.hid hm
        clear ht c2 h0 hm t64 HF
        go_enter Tryd.func13, Tryd.ntmps13
        go_wp2_with fail
        ((with_reducible refine (HT.out _).mono ?_); rintro e w' ⟨rfl, hbw⟩)
        obtain ⟨m, rfl⟩ := grow_mk hbw
        clear hbw
        go_upto_region 3 with fail
        have h1 : Blk (((w.alloc (.cells #[.int .i64 n, .int .i64 d] 23)).alloc (.cells #[.int .i64 p, .int .i64 q] 23)).alloc (.cells #[.int .i64 0, .int .i64 0] 23)) w.heap.size 23 #[.int .i64 n, .int .i64 d] := ((Blk.new _ _ _).old _).old _
        have h2 : Blk (((w.alloc (.cells #[.int .i64 n, .int .i64 d] 23)).alloc (.cells #[.int .i64 p, .int .i64 q] 23)).alloc (.cells #[.int .i64 0, .int .i64 0] 23)) (w.heap.size + 1) 23 #[.int .i64 p, .int .i64 q] := (Blk.new2 _ _ _ _).old _
        have h3 : Blk (((w.alloc (.cells #[.int .i64 n, .int .i64 d] 23)).alloc (.cells #[.int .i64 p, .int .i64 q] 23)).alloc (.cells #[.int .i64 0, .int .i64 0] 23)) (w.heap.size + 1 + 1) 23 #[.int .i64 0, .int .i64 0] := (Blk.new _ _ _).moved (by simp)
        have hb : Below w.heap.size w (((w.alloc (.cells #[.int .i64 n, .int .i64 d] 23)).alloc (.cells #[.int .i64 p, .int .i64 q] 23)).alloc (.cells #[.int .i64 0, .int .i64 0] 23)) := ((below_box _ _).alloc (by simp) _).alloc (by simp; omega) _
        replace h1 := h1.grow m; replace h2 := h2.grow m; replace h3 := h3.grow m
        replace hb := below_grow hb m
        generalize grow _ m = wg at *
        have ca0 : wg.cell? ⟨w.heap.size, 0, none⟩ = some (.int .i64 n) := (h1).cell 0
        have fca0 := (h1).frozen 0
        have ca1 : wg.cell? ⟨w.heap.size, 1, none⟩ = some (.int .i64 d) := (h1).cell 1
        have fca1 := (h1).frozen 1
        have lca := (h1).lt
        have cb0 : wg.cell? ⟨w.heap.size + 1, 0, none⟩ = some (.int .i64 p) := (h2).cell 0
        have fcb0 := (h2).frozen 0
        have cb1 : wg.cell? ⟨w.heap.size + 1, 1, none⟩ = some (.int .i64 q) := (h2).cell 1
        have fcb1 := (h2).frozen 1
        have lcb := (h2).lt
        go_upto_region 6 with fail
        have h4 := Blk.new wg 23 #[.int .i64 (-q), .int .i64 (-p)]
        replace h1 := h1.old (.cells #[.int .i64 (-q), .int .i64 (-p)] 23)
        replace h3 := h3.old (.cells #[.int .i64 (-q), .int .i64 (-p)] 23)
        replace hb := hb.alloc hb.size (.cells #[.int .i64 (-q), .int .i64 (-p)] 23)
        clear ca0 ca1 fca0 fca1 lca cb0 cb1 fcb0 fcb1 lcb h2
        generalize wg.heap.size = g at *
        generalize wg.alloc _ = wh at *
        have ca0 : wh.cell? ⟨w.heap.size, 0, none⟩ = some (.int .i64 n) := (h1).cell 0
        have fca0 := (h1).frozen 0
        have ca1 : wh.cell? ⟨w.heap.size, 1, none⟩ = some (.int .i64 d) := (h1).cell 1
        have fca1 := (h1).frozen 1
        have lca := (h1).lt
        have ct0 : wh.cell? ⟨g, 0, none⟩ = some (.int .i64 (-q)) := (h4).cell 0
        have fct0 := (h4).frozen 0
        have ct1 : wh.cell? ⟨g, 1, none⟩ = some (.int .i64 (-p)) := (h4).cell 1
        have fct1 := (h4).frozen 1
        have lct := (h4).lt
        go_wp2_with fail
        ((with_reducible refine (HM.out _ _ rfl).mono ?_); rintro e w' ⟨rfl, hbw⟩)
        obtain ⟨m2, rfl⟩ := grow_mk hbw
        clear hbw
        have h5 := (h3.old (.cells #[.int .i64 n, .int .i64 d, .int .i64 (-q), .int .i64 (-p)] 23)).grow m2
        replace hb := below_grow (hb.alloc hb.size _) m2
        generalize grow _ m2 = wz at *
        have cr0 : wz.cell? ⟨w.heap.size + 1 + 1, 0, none⟩ = some (.int .i64 0) := (h5).cell 0
        have fcr0 := (h5).frozen 0
        have cr1 : wz.cell? ⟨w.heap.size + 1 + 1, 1, none⟩ = some (.int .i64 0) := (h5).cell 1
        have fcr1 := (h5).frozen 1
        have lcr := (h5).lt
        go_wp2_with fail
        exact bodyPost_ret (v := .agg #[.int .i64 u, .int .i64 v]) (by simp [results, Tryd.results13, go_sem, cr0, cr1, lcr]) rfl ⟨rfl, (hb.setCell (by first | omega | (simp; done) | (simp; omega)) _).setCell (by first | omega | (simp; done) | (simp; omega)) _⟩
      · rw [if_neg hp] at hm
        have HM := Lib.hid hm
        clear ht c2 h0 hm t64 HF
        go_enter Tryd.func13, Tryd.ntmps13
        go_wp2_with fail
        ((with_reducible refine (HT.out _).mono ?_); rintro e w' ⟨rfl, hbw⟩)
        obtain ⟨m, rfl⟩ := grow_mk hbw
        clear hbw
        go_upto_region 3 with fail
        have h1 : Blk (((w.alloc (.cells #[.int .i64 n, .int .i64 d] 23)).alloc (.cells #[.int .i64 p, .int .i64 q] 23)).alloc (.cells #[.int .i64 0, .int .i64 0] 23)) w.heap.size 23 #[.int .i64 n, .int .i64 d] := ((Blk.new _ _ _).old _).old _
        have h2 : Blk (((w.alloc (.cells #[.int .i64 n, .int .i64 d] 23)).alloc (.cells #[.int .i64 p, .int .i64 q] 23)).alloc (.cells #[.int .i64 0, .int .i64 0] 23)) (w.heap.size + 1) 23 #[.int .i64 p, .int .i64 q] := (Blk.new2 _ _ _ _).old _
        have h3 : Blk (((w.alloc (.cells #[.int .i64 n, .int .i64 d] 23)).alloc (.cells #[.int .i64 p, .int .i64 q] 23)).alloc (.cells #[.int .i64 0, .int .i64 0] 23)) (w.heap.size + 1 + 1) 23 #[.int .i64 0, .int .i64 0] := (Blk.new _ _ _).moved (by simp)
        have hb : Below w.heap.size w (((w.alloc (.cells #[.int .i64 n, .int .i64 d] 23)).alloc (.cells #[.int .i64 p, .int .i64 q] 23)).alloc (.cells #[.int .i64 0, .int .i64 0] 23)) := ((below_box _ _).alloc (by simp) _).alloc (by simp; omega) _
        replace h1 := h1.grow m; replace h2 := h2.grow m; replace h3 := h3.grow m
        replace hb := below_grow hb m
        generalize grow _ m = wg at *
        have ca0 : wg.cell? ⟨w.heap.size, 0, none⟩ = some (.int .i64 n) := (h1).cell 0
        have fca0 := (h1).frozen 0
        have ca1 : wg.cell? ⟨w.heap.size, 1, none⟩ = some (.int .i64 d) := (h1).cell 1
        have fca1 := (h1).frozen 1
        have lca := (h1).lt
        have cb0 : wg.cell? ⟨w.heap.size + 1, 0, none⟩ = some (.int .i64 p) := (h2).cell 0
        have fcb0 := (h2).frozen 0
        have cb1 : wg.cell? ⟨w.heap.size + 1, 1, none⟩ = some (.int .i64 q) := (h2).cell 1
        have fcb1 := (h2).frozen 1
        have lcb := (h2).lt
        go_upto_region 6 with fail
        have h4 := Blk.new wg 23 #[.int .i64 (q), .int .i64 (p)]
        replace h1 := h1.old (.cells #[.int .i64 (q), .int .i64 (p)] 23)
        replace h3 := h3.old (.cells #[.int .i64 (q), .int .i64 (p)] 23)
        replace hb := hb.alloc hb.size (.cells #[.int .i64 (q), .int .i64 (p)] 23)
        clear ca0 ca1 fca0 fca1 lca cb0 cb1 fcb0 fcb1 lcb h2
        generalize wg.heap.size = g at *
        generalize wg.alloc _ = wh at *
        have ca0 : wh.cell? ⟨w.heap.size, 0, none⟩ = some (.int .i64 n) := (h1).cell 0
        have fca0 := (h1).frozen 0
        have ca1 : wh.cell? ⟨w.heap.size, 1, none⟩ = some (.int .i64 d) := (h1).cell 1
        have fca1 := (h1).frozen 1
        have lca := (h1).lt
        have ct0 : wh.cell? ⟨g, 0, none⟩ = some (.int .i64 (q)) := (h4).cell 0
        have fct0 := (h4).frozen 0
        have ct1 : wh.cell? ⟨g, 1, none⟩ = some (.int .i64 (p)) := (h4).cell 1
        have fct1 := (h4).frozen 1
        have lct := (h4).lt
        go_wp2_with fail
        ((with_reducible refine (HM.out _ _ rfl).mono ?_); rintro e w' ⟨rfl, hbw⟩)
        obtain ⟨m2, rfl⟩ := grow_mk hbw
        clear hbw
        have h5 := (h3.old (.cells #[.int .i64 n, .int .i64 d, .int .i64 (q), .int .i64 (p)] 23)).grow m2
        replace hb := below_grow (hb.alloc hb.size _) m2
        generalize grow _ m2 = wz at *
        have cr0 : wz.cell? ⟨w.heap.size + 1 + 1, 0, none⟩ = some (.int .i64 0) := (h5).cell 0
        have fcr0 := (h5).frozen 0
        have cr1 : wz.cell? ⟨w.heap.size + 1 + 1, 1, none⟩ = some (.int .i64 0) := (h5).cell 1
        have fcr1 := (h5).frozen 1
        have lcr := (h5).lt
        go_wp2_with fail
        exact bodyPost_ret (v := .agg #[.int .i64 u, .int .i64 v]) (by simp [results, Tryd.results13, go_sem, cr0, cr1, lcr]) rfl ⟨rfl, (hb.setCell (by first | omega | (simp; done) | (simp; omega)) _).setCell (by first | omega | (simp; done) | (simp; omega)) _⟩

end Go.Proofs.YtgjhaanpkfheeaaDoor
