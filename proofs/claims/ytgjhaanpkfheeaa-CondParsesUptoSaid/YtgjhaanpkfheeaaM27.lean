/- Of my texts: ValsQ. -/
import Derived.Test.YtgjhaanpkfheeaaM26
namespace Go.Proofs.Ytgjhaanpkfheeaa
set_option linter.unusedVariables false
set_option linter.unusedSimpArgs false
open Go.RowKit

set_option maxRecDepth 20000 in
set_option maxHeartbeats 8000000 in
theorem rvalues_any (l : List Tk) (oa : Option Addr) (cap b o : Nat) (w : World) (hs : Sl w oa l.length cap b o 6 (toksV l)) (hm : l.length ≤ 274877906944) :
    Calls Try.prog 138 #[.slice oa l.length cap] w fun e w' => (∃ (v : Value) (xs : List (Tk × Value)), e = .returned v ∧ w'.ownsRow w.heap.size 74 7 v xs.length (xs.flatMap fwcells) ∧ xs.map (·.1) = valuesT l) ∧ Below w.heap.size w w' := by
  obtain ⟨X, hX⟩ : ∃ X, l.foldl stepT [(zeroTk, [])] = X := ⟨_, rfl⟩
  obtain ⟨Y, hY⟩ : ∃ Y, valuesT l = Y := ⟨_, rfl⟩
  have hXY : Y = firstT (closeT X.length X) := by rw [← hY, ← hX]; rfl
  rw [hY]
  obtain ⟨N, hN⟩ : ∃ N, l.length = N := ⟨_, rfl⟩
  rw [hN] at hm ⊢
  obtain ⟨B, hB⟩ : ∃ B, w.heap.size = B := ⟨_, rfl⟩
  simp only [hB]
  have hcl := hs.le
  have hcm := hs.max
  unfold maxLen at hcm
  rw [hN] at hcl
  have HS := Lib.hid hs
  have HX := Lib.hid hX
  have HXY := Lib.hid hXY
  have HN := Lib.hid hN
  have HB := Lib.hid hB
  clear hs hX hXY hY hN hB
  go_enter Try.func138, Try.ntmps138
  go_upto_region 4 with fail
  have hb0 : Below B w (((w.alloc (.cells #[.slice none 0 0] 61)).alloc (.cells #[.slice (some ⟨w.heap.size, 0, none⟩) 1 1] 139)).alloc (.cells #[.slice none 0 0] 136)) :=
    (((Below.refl B w).alloc (by rw [HB.out]; exact Nat.le_refl _) _).alloc (by simp; have := HB.out; omega) _).alloc (by simp; have := HB.out; omega) _
  have hz : Sw B (w.heap.size + 1) (w.heap.size + 1 + 1) (((w.alloc (.cells #[.slice none 0 0] 61)).alloc (.cells #[.slice (some ⟨w.heap.size, 0, none⟩) 1 1] 139)).alloc (.cells #[.slice none 0 0] 136)) (.slice (some ⟨w.heap.size, 0, none⟩) (0 + 1) 1) (.slice none 0 0) [⟨zeroTk, .slice none 0 0, []⟩] 0 :=
    Sw.begin ((Blk.new2 w _ _ _).old _) (by have := Blk.new ((w.alloc (.cells #[.slice none 0 0] 61)).alloc (.cells #[.slice (some ⟨w.heap.size, 0, none⟩) 1 1] 139)) 136 #[.slice none 0 0]; simpa using this) (((Blk.new w _ _).old _).old _) (by have := HB.out; omega) (by have := HB.out; omega) (by have := HB.out; omega)
  have HK0 := Lib.hid hz
  have HB0 := Lib.hid hb0
  clear hz hb0
  obtain ⟨gS, hgS⟩ : ∃ gS, w.heap.size + 1 = gS := ⟨_, rfl⟩
  rw [hgS] at HK0 ⊢
  obtain ⟨gO, hgO⟩ : ∃ gO, gS + 1 = gO := ⟨_, rfl⟩
  rw [hgO] at HK0 ⊢
  clear hgS hgO
  generalize w.heap.size = g0 at HK0 HB0 ⊢
  generalize World.alloc _ _ = w0 at *
  go_upto_block 0 with fail
  go_cut [] (fun wx => ∃ (S : List Fw) (gs c n : Nat) (oo : Option Addr) (oc : Nat), Hid (S.length = n + 1 ∧ n ≤ N) ∧ Hid (Sw B gS gO wx (.slice (some ⟨gs, 0, none⟩) (n + 1) c) (.slice oo n oc) S N) ∧ Hid (skT S = X) ∧ Hid (Below B w wx))
  case first =>
    go_wp2_with fail
    go_loopg [13] N (fun q s wr => ∃ (i : Nat) (S : List Fw) (gs c n : Nat) (oo : Option Addr) (oc : Nat), s = .int .i64 i ∧ Hid (S.length = n + 1 ∧ n ≤ i) ∧ Hid (Sw B gS gO wr (.slice (some ⟨gs, 0, none⟩) (n + 1) c) (.slice oo n oc) S i) ∧ Hid (skT S = (l.take i).foldl stepT [(zeroTk, [])]) ∧ Hid (Below B w wr) ∧ i ≤ N ∧ N - i ≤ q)
    case atStart => exact ⟨0, _, g0, 1, 0, none, 0, rfl, Lib.hid ⟨rfl, Nat.le_refl _⟩, HK0, Lib.hid rfl, HB0, Nat.zero_le _, by omega⟩
    case round =>
      clear HK0 HB0
      obtain ⟨i, S, gs, c, n, oo, oc, rfl, hL, hK, hC, hb, hiN, hq⟩ := hrel
      by_cases hi : i < N
      · have gi : decide ((i : Int) < (N : Int)) = true := by simpa using hi
        have gin : decide (i < N) = true := by simpa using hi
        have hil : i < l.length := by rw [HN.out]; exact hi
        have hli : l[i]? = some l[i] := List.getElem?_eq_getElem hil
        have hs2 := HS.out.below (by rw [HB.out]; exact hb.out)
        obtain ⟨rfl, hbl⟩ := hs2.lies (by omega)
        have hfold : (l.take (i + 1)).foldl stepT [(zeroTk, [])] = stepT (skT S) l[i] := by rw [List.take_succ_eq_append_getElem hil, List.foldl_append, ← hC.out]; rfl
        obtain ⟨t, ht⟩ : ∃ t, l[i] = t := ⟨_, rfl⟩
        rw [ht] at hli hfold
        have hcell : ∀ j v, (tkcells t)[j]? = some v → wr.cell? ⟨b, o + (i * 6 + j), none⟩ = some v := fun j v hv => hs2.cell _ _ (flat_at (f := tkcells) (sz := 6) (fun _ => rfl) l i t j v hli hv)
        obtain ⟨tk, tt, ⟨tn, td⟩, ti, tid⟩ := t
        have f0 : wr.cell? ⟨b, o + i * 6, none⟩ = some (.int .i64 tk) := hcell 0 _ rfl
        have f1 : wr.cell? ⟨b, o + i * 6 + 1, none⟩ = some (.string ⟨tt.toArray⟩) := hcell 1 _ rfl
        have f2 : wr.cell? ⟨b, o + i * 6 + 2, none⟩ = some (.int .i64 tn) := hcell 2 _ rfl
        have f3 : wr.cell? ⟨b, o + i * 6 + 3, none⟩ = some (.int .i64 td) := hcell 3 _ rfl
        have f4 : wr.cell? ⟨b, o + i * 6 + 4, none⟩ = some (.bool ti) := hcell 4 _ rfl
        have f5 : wr.cell? ⟨b, o + i * 6 + 5, none⟩ = some (.bool tid) := hcell 5 _ rfl
        have HF := Lib.hid hfold
        obtain ⟨hL1, hL3⟩ := hL.out
        obtain ⟨R, f, rfl⟩ := last_fw (S := S) (fun e => by rw [e] at hL1; simp at hL1)
        have hRn : R.length = n := by simpa using hL1
        have HL := Lib.hid (And.intro hRn hL3)
        have hn4 : n ≤ 274877906944 := by omega
        clear hcell hfold hs2 hli hil ht hL hL1 hL3 hRn hC
        go_upto_region 7 with fail
        have hbx := Blk.new wr 72 #[.int .i64 tk, .string ⟨tt.toArray⟩, .int .i64 tn, .int .i64 td, .bool ti, .bool tid]
        have hb1 := Lib.hid (Below.alloc hb.out (by have := hb.out.size; rw [← HB.out]; exact this) (.cells #[.int .i64 tk, .string ⟨tt.toArray⟩, .int .i64 tn, .int .i64 td, .bool ti, .bool tid] 72))
        have hK1 := Lib.hid (hK.out.below (below_box wr (.cells #[.int .i64 tk, .string ⟨tt.toArray⟩, .int .i64 tn, .int .i64 td, .bool ti, .bool tid] 72)))
        clear f0 f1 f2 f3 f4 f5 hb hK
        generalize wr.heap.size = g5 at *
        generalize wr.alloc _ = w1 at *
        have cb0 : w1.cell? ⟨g5, 0, none⟩ = some (.int .i64 tk) := (hbx).cell 0
        have fcb0 := (hbx).frozen 0
        have cb1 : w1.cell? ⟨g5, 1, none⟩ = some (.string ⟨tt.toArray⟩) := (hbx).cell 1
        have fcb1 := (hbx).frozen 1
        have cb2 : w1.cell? ⟨g5, 2, none⟩ = some (.int .i64 tn) := (hbx).cell 2
        have fcb2 := (hbx).frozen 2
        have cb3 : w1.cell? ⟨g5, 3, none⟩ = some (.int .i64 td) := (hbx).cell 3
        have fcb3 := (hbx).frozen 3
        have cb4 : w1.cell? ⟨g5, 4, none⟩ = some (.bool ti) := (hbx).cell 4
        have fcb4 := (hbx).frozen 4
        have cb5 : w1.cell? ⟨g5, 5, none⟩ = some (.bool tid) := (hbx).cell 5
        have fcb5 := (hbx).frozen 5
        have lcb := (hbx).lt
        have hbS := hK1.out.bs
        have hbO := hK1.out.bo
        have cs0 : w1.cell? ⟨gS, 0, none⟩ = some (.slice (some ⟨gs, 0, none⟩) (n + 1) c) := (hbS).cell 0
        have fcs0 := (hbS).frozen 0
        have lcs := (hbS).lt
        have co0 : w1.cell? ⟨gO, 0, none⟩ = some (.slice oo n oc) := (hbO).cell 0
        have fco0 := (hbO).frozen 0
        have lco := (hbO).lt
        have HBX := Lib.hid hbx
        have hwB : B ≤ w1.heap.size := by have := hb1.out.size; have := HB.out; omega
        clear hbx hbS hbO
        go_upto_region 12 with fail
        obtain ⟨C, hCF⟩ : ∃ C, closeF tk = C := ⟨_, rfl⟩
        have HCL := Lib.hid (rcloser_same tk w1)
        rw [hCF] at HCL
        have HCF := Lib.hid hCF
        clear hCF
        go_wp2_with fail
        ((with_reducible refine HCL.out.mono ?_); rintro e wz ⟨rfl, rfl⟩)
        clear HCL
        have hposC := closeF_pos tk
        rw [HCF.out] at hposC
        by_cases hO : 0 < C
        · have g1 : decide ((0 : Int) < C) = true := by simpa using hO
          have hopsA := hK1.out.ops
          have hl1 : (R ++ [f]).length = n + 1 := by simp [HL.out.1]
          rw [hl1, Nat.add_sub_cancel] at hopsA
          have HOPS := Lib.hid hopsA
          have hneO : (Value.slice oo n oc).ownBlock ≠ some gO := blk_apart hK1.out.bo hopsA (by decide)
          have HNO := Lib.hid hneO
          have HBO := Lib.hid hK1.out.bo
          have HCT := Lib.hid (And.intro hO hl1)
          clear hopsA hneO hl1 hposC hO
          go_upto_region 14 with (at_builtin; refine wpList_add elTok rfl _ _ rfl rfl (HOPS.out.alloc _) (by simp; omega) (Blk.new w1 _ _) 1 rfl rfl (by simp [Value.oneCell']) (by omega) (by omega) ?_; intro gg cap3 w3 ho3 hg3 hat hvb; have HA := Lib.hid (And.intro ho3 (And.intro hg3 hat)); have q1 := ((HBO.out.old _).keeps hg3 HNO.out).cell 0; simp only [List.getElem?_toArray, List.getElem?_cons_zero] at q1; have q2 := ((HBO.out.old _).keeps hg3 HNO.out).frozen 0; clear ho3 hg3 hat hvb)
          obtain ⟨ho3, hg3, hat⟩ := HA.out
          have hgc := grownBy_trans (World.grownBy_alloc w1 _ _) hg3
          have hat2 : ∀ k, (Value.slice (some ⟨gg, 0, none⟩) (n + 1) cap3).ownBlock = some k → (Value.slice oo n oc).ownBlock = some k ∨ w1.heap.size ≤ k := fun k hk => by
            obtain rfl := Option.some.inj hk
            rcases hat with h1 | h1
            · exact Or.inl h1
            · simp at h1; refine Or.inr ?_; show w1.heap.size ≤ gg; omega
          obtain ⟨m1, m2, m3, m4⟩ := hK1.out.mid hgc (.slice (some ⟨gg, 0, none⟩) (n + 1) cap3) hat2
          have H3 := Lib.hid (And.intro ho3 (And.intro hgc hat2))
          have hsz4 : w1.heap.size ≤ (w3.setCell ⟨gO, 0, none⟩ (.slice (some ⟨gg, 0, none⟩) (n + 1) cap3)).heap.size := by have := hgc.size; simpa using this
          obtain ⟨w4, hw4⟩ : ∃ w4, w3.setCell ⟨gO, 0, none⟩ (.slice (some ⟨gg, 0, none⟩) (n + 1) cap3) = w4 := ⟨_, rfl⟩
          rw [hw4] at m1 m2 m3 m4 hsz4 ⊢
          have HW4 := Lib.hid hw4
          rw [HCT.out.2] at m3
          have HM := Lib.hid (And.intro m1 (And.intro m3 (blk_apart m1 m3 (by decide))))
          have cr0 : w4.cell? ⟨gS, 0, none⟩ = some (.slice (some ⟨gs, 0, none⟩) (n + 1) c) := (m1).cell 0
          have fcr0 := (m1).frozen 0
          have lcr := (m1).lt
          clear ho3 hg3 hat hgc hat2 m1 m2 m3 m4 hw4 HA q1 q2 HNO HBO cb0 cb1 cb2 cb3 cb4 cb5 fcb0 fcb1 fcb2 fcb3 fcb4 fcb5 lcb cs0 fcs0 lcs co0 fco0 lco
          go_wp2_with (at_builtin; refine wpList_add elSt rfl _ _ rfl rfl (HM.out.2.1.alloc _) (by simp; omega) (Blk.new w4 _ _) 1 rfl rfl (by simp [Value.oneCell']) (by omega) (by omega) ?_; intro gh cap5 w5 ho5 hg5 hat5 hvb; have HA5 := Lib.hid (And.intro ho5 (And.intro hg5 hat5)); have q1 := ((HM.out.1.old _).keeps hg5 HM.out.2.2).cell 0; simp only [List.getElem?_toArray, List.getElem?_cons_zero] at q1; have q2 := ((HM.out.1.old _).keeps hg5 HM.out.2.2).frozen 0; clear ho5 hg5 hat5 hvb)
          go_roundg (N - (i + 1))
          case measure => omega
          case rel =>
            obtain ⟨ho5, hg5, hat5⟩ := HA5.out
            obtain ⟨ho3, hgc, hat2⟩ := H3.out
            have hgc5 := grownBy_trans (World.grownBy_alloc w4 _ _) hg5
            have hop := hK1.out.open (t := ⟨tk, tt, (tn, td), ti, tid⟩) (vs' := .slice (some ⟨gh, 0, none⟩) (n + 1 + 1) cap5) (gg := gh) (by simp) hwB hgc hat2 (by rw [HCT.out.2]; exact ho3) (by rw [HW4.out]; exact hgc5) rfl (by
              rw [HW4.out]
              rcases hat5 with h1 | h1
              · exact Or.inl h1
              · simp at h1; refine Or.inr ?_; omega) (by rw [HCT.out.2]; exact ho5)
            refine ⟨i + 1, _, gh, cap5, n + 1, _, _, by go_num, Lib.hid ⟨by rw [List.length_append, HCT.out.2]; rfl, by have := HL.out; omega⟩, Lib.hid (hop.1.mono (by omega)), Lib.hid ?_, Lib.hid (hb1.out.trans hop.2), hi, Nat.le_refl _⟩
            rw [HF.out, skT_top, skT_top, stepT_cons, if_neg, if_pos]
            · rfl
            · show closeF tk ≠ 0
              rw [HCF.out]
              have := HCT.out.1
              omega
            · rintro ⟨_, h2⟩
              have h3 := close_closes f.t.kind
              rw [← h2] at h3
              have := HCT.out.1
              rw [← HCF.out, h3] at this
              exact absurd this (by decide)
        · have g1 : decide ((0 : Int) < C) = false := by simpa using hO
          have hC0 : closeF tk = 0 := by rw [HCF.out]; omega
          have HC0 := Lib.hid hC0
          obtain ⟨fk, hfk⟩ : ∃ fk, f.t.kind = fk := ⟨_, rfl⟩
          have HFK := Lib.hid hfk
          clear hC0 hposC hO hfk
          go_upto_region 15 with fail
          go_cut [55] (fun s wx => s = .bool (decide (0 < n) && (closeF fk == tk)) ∧ Hid (Below w1.heap.size w1 wx))
          case first =>
            by_cases h0 : 0 < n
            · have g1 : decide ((0 : Int) < (n : Int)) = true := by simpa using h0
              have g2 : decide (0 < n) = true := by simpa using h0
              obtain ⟨m, hmn⟩ : ∃ m, n = m + 1 := ⟨n - 1, by omega⟩
              have hops := hK1.out.ops
              have hl1 : (R ++ [f]).length = n + 1 := by simp [HL.out.1]
              rw [hl1, Nat.add_sub_cancel] at hops
              obtain ⟨og, rfl⟩ : ∃ og, oo = some ⟨og, 0, none⟩ := by
                rcases hops.2 with ⟨h0, _⟩ | ⟨g, c, cur, hv, _⟩
                · injection h0 with _ h0 _; omega
                · injection hv with h1 _ _; exact ⟨g, h1⟩
              have hft : ((R ++ [f]).map Fw.t).tail[m]? = some f.t := by
                rw [List.map_append, List.tail_append_of_ne_nil (fun e => by have := congrArg List.length e; rw [List.length_map, HL.out.1, hmn] at this; simp at this), List.getElem?_append_right (by rw [List.length_tail, List.length_map, HL.out.1]; omega), List.length_tail, List.length_map, HL.out.1, hmn]
                simp
              have c0 : w1.cell? ⟨og, m * 6, none⟩ = some (.int .i64 fk) := owns_cell hops (flat_at tkcells6 _ m f.t 0 _ hft (by rw [← HFK.out]; rfl))
              have iN0 : (0 : Int) ≤ (m : Int) := Int.natCast_nonneg _
              have iN1 : (n : Int) - 1 = (m : Int) := by omega
              have iN2 : (m : Int) < (n : Int) := by omega
              have iN2n : m < n := by omega
              have iwr : IntKind.i64.wrap (m : Int) = (m : Int) := by rw [IntKind.wrap_i64]; omega
              have hog : og < w1.heap.size := (hops.lt og rfl).2
              clear hops hl1 hft hmn
              refine wp_region_grow (by kernel_rfl) (by kernel_rfl) ?_
              repeat (go_big_quiet_step ((first | (go_at_call 124; with_reducible exact calls_grow_same (rcloser_same fk _)))))
              refine wpQuiet_nil ?_
              rintro _ ⟨m1, rfl⟩
              go_wp2_with fail
              go_meet
              case rel => exact ⟨by simp [g2], Lib.hid (grow_below m1)⟩
            · have g1 : decide ((0 : Int) < (n : Int)) = false := by simp; omega
              have g2 : decide (0 < n) = false := by simp; omega
              refine wp_region_grow (by kernel_rfl) (by kernel_rfl) ?_
              repeat (go_big_quiet_step ((first | (go_at_call 124; with_reducible exact calls_grow_same (rcloser_same fk _)))))
              refine wpQuiet_nil ?_
              rintro _ ⟨m1, rfl⟩
              go_wp2_with fail
              go_meet
              case rel => exact ⟨by simp [g2], Lib.hid (grow_below m1)⟩
          case rest =>
            obtain ⟨rfl, hbw⟩ := hcut
            have hK2 := Lib.hid (hK1.out.below hbw.out)
            have hb2 := Lib.hid (hb1.out.trans (Below.mono hbw.out hwB))
            have hbx := HBX.out.below hbw.out HBX.out.lt
            have hwB2 : B ≤ wc.heap.size := Nat.le_trans hwB hbw.out.size
            clear hbw hb1 hK1 HBX cb0 cb1 cb2 cb3 cb4 cb5 fcb0 fcb1 fcb2 fcb3 fcb4 fcb5 lcb cs0 fcs0 lcs co0 fco0 lco
            by_cases hA : 0 < n ∧ closeF fk = tk
            · have g6 : (decide (0 < n) && (closeF fk == tk)) = true := by simp [hA.1, hA.2]
              obtain ⟨R, p, rfl⟩ := last_fw (S := R) (fun e => by have := HL.out.1; rw [e] at this; simp at this; omega)
              obtain ⟨n', hn'⟩ : ∃ n', R.length = n' := ⟨_, rfl⟩
              have hnn : n = n' + 1 := by rw [← HL.out.1, List.length_append, hn']; rfl
              subst hnn
              have HSH := Lib.hid (rshut_any B gS gO i n' R p f gs c oo oc wc hn' hK2.out hwB2 (by omega) (by omega))
              have HA := Lib.hid hA
              clear hA hbx
              rw [g6]
              clear g6
              go_wp2_with fail
              ((with_reducible refine HSH.out.mono ?_); rintro e w2 ⟨rfl, ⟨v', kd, hsk⟩, hbb⟩)
              have H2 := Lib.hid (And.intro hsk hbb)
              clear hsk hbb HSH
              go_wp2_with fail
              go_roundg (N - (i + 1))
              case measure => omega
              case rel =>
                obtain ⟨hsk, hbb⟩ := H2.out
                refine ⟨i + 1, _, gs, c, n', oo, oc, by go_num, Lib.hid ⟨by rw [List.length_append, hn']; rfl, by have := HL.out; omega⟩, Lib.hid hsk, Lib.hid ?_, Lib.hid (hb2.out.trans hbb), hi, Nat.le_refl _⟩
                rw [HF.out, skT_top, skT_top, skT_top, stepT_cons, if_pos ⟨by simp, by rw [HFK.out]; exact HA.out.2.symm⟩]
                simp only [shutT, List.map_append, List.map_cons, List.map_nil]
            · have g6 : (decide (0 < n) && (closeF fk == tk)) = false := by
                apply Bool.eq_false_iff.2
                intro h
                simp only [Bool.and_eq_true, decide_eq_true_eq, beq_iff_eq] at h
                exact hA h
              have hnot : ¬ (skT R ≠ [] ∧ tk = closeF f.t.kind) := fun h => hA ⟨by
                rcases Nat.eq_zero_or_pos n with h0 | h0
                · have hr : R = [] := List.eq_nil_of_length_eq_zero (by rw [HL.out.1, h0])
                  exact absurd (skT_nil.2 hr) h.1
                · exact h0, by rw [← HFK.out]; exact h.2.symm⟩
              have HNOT := Lib.hid hnot
              rw [g6]
              clear g6 hA hnot
              go_upto_region 8 with fail
              generalize wc = wp at *
              go_cut [20] (fun s wx => ∃ b : Bool, s = .bool b ∧ Hid (Below wp.heap.size wp wx))
              case first =>
                go_region
                all_goals
                  go_wp2_with fail
                  go_meet
                  case rel => exact ⟨_, rfl, Lib.hid (Below.drew (below_box _ _))⟩
              case rest =>
                obtain ⟨bb, rfl, hbw⟩ := hcut
                have hp2 := hK2.out.below hbw.out
                have hb3 := Lib.hid (hb2.out.trans (Below.mono hbw.out hwB2))
                have hbx := Lib.hid (hbx.below hbw.out hbx.lt)
                have hBw : B ≤ wc.heap.size := Nat.le_trans hwB2 hbw.out.size
                clear hbw hb2 hK2 hwB2
                have hrowP := hp2.row
                have hl1 : (R ++ [f]).length = n + 1 := by simp [HL.out.1]
                rw [hl1] at hrowP
                have hpm : f ∈ R ++ [f] := List.mem_append_right _ (List.mem_singleton.2 rfl)
                have hkP := hp2.kid f hpm
                have hlP := hp2.len f hpm
                have hcP : wc.cell? ⟨gs, n, none⟩ = some f.v := owns_cell hrowP (by rw [List.map_append, List.getElem?_append_right (by rw [List.length_map, HL.out.1]; exact Nat.le_refl _), List.length_map, HL.out.1, Nat.sub_self]; rfl)
                have hfP : wc.frozen? ⟨gs, n, none⟩ = false := owns_frozen hrowP _
                have hgsl := (owns_lt hrowP).2
                have hneP : f.v.ownBlock ≠ some gs := fun e => owns_apart hkP hrowP (by decide) e rfl
                have hbS := hp2.bs
                have hneS : f.v.ownBlock ≠ some gS := blk_apart hbS hkP (by decide)
                obtain ⟨ft, fv, fxs⟩ := f
                simp only at hkP hlP hcP hneP hneS
                obtain ⟨poa, pc, pg, rfl, _, _⟩ := sl_of_own hkP
                obtain ⟨k, hk⟩ : ∃ k, fxs.length = k := ⟨_, rfl⟩
                rw [hk] at hkP hlP hcP hneP hneS
                have HKP := Lib.hid hkP
                have HK := Lib.hid hk
                have HP2 := Lib.hid hp2
                have iN0 : (0 : Int) ≤ (n : Int) := Int.natCast_nonneg _
                have iNn : (n : Int) < (n : Int) + 1 := by omega
                have iNn2 : n < n + 1 := by omega
                have iwr : IntKind.i64.wrap (n : Int) = (n : Int) := by rw [IntKind.wrap_i64]; omega
                have hkk : k ≤ 274877906944 := by omega
                have cb0 : wc.cell? ⟨g5, 0, none⟩ = some (.int .i64 tk) := (hbx.out).cell 0
                have fcb0 := (hbx.out).frozen 0
                have cb1 : wc.cell? ⟨g5, 1, none⟩ = some (.string ⟨tt.toArray⟩) := (hbx.out).cell 1
                have fcb1 := (hbx.out).frozen 1
                have cb2 : wc.cell? ⟨g5, 2, none⟩ = some (.int .i64 tn) := (hbx.out).cell 2
                have fcb2 := (hbx.out).frozen 2
                have cb3 : wc.cell? ⟨g5, 3, none⟩ = some (.int .i64 td) := (hbx.out).cell 3
                have fcb3 := (hbx.out).frozen 3
                have cb4 : wc.cell? ⟨g5, 4, none⟩ = some (.bool ti) := (hbx.out).cell 4
                have fcb4 := (hbx.out).frozen 4
                have cb5 : wc.cell? ⟨g5, 5, none⟩ = some (.bool tid) := (hbx.out).cell 5
                have fcb5 := (hbx.out).frozen 5
                have lcb := (hbx.out).lt
                have cs0 : wc.cell? ⟨gS, 0, none⟩ = some (.slice (some ⟨gs, 0, none⟩) (n + 1) c) := (hbS).cell 0
                have fcs0 := (hbS).frozen 0
                have lcs := (hbS).lt
                clear hp2 hrowP hpm hkP hk hbx hbS hl1
                cases bb with
                | true =>
                  go_wp2_with fail
                  refine wp_region_phase 8 [Loose.claim 5 26 (.agg #[.int .i64 tk, .string ⟨tt.toArray⟩, .int .i64 tn, .int .i64 td, .bool ti, .bool tid, .slice none 0 0]), Loose.claim 6 27 (.int .i64 k), Loose.rowL 7 28 74 1 zero7 wc.heap.size] (by kernel_rfl) (by kernel_rfl) (by kernel_rfl) rfl (by kernel_rfl) (by kernel_rfl) (by kernel_rfl) (by kernel_rfl) ?_
                  simp only [List.take_succ_cons, List.take_zero, headL, hushL, List.find?, Loose.claim_i, Loose.cells_i, Loose.rowL_i, Loose.claim_hush, Loose.cells_hush, Loose.rowL_hush, Loose.val_i, Loose.rowS_i, Loose.val_hush, Loose.rowS_hush, Loose.fw_i, Loose.fw_hush, Loose.rw_i, Loose.rw_hush, Nat.reduceBEq, Nat.reduceAdd]
                  repeat (go_big_quiet_step (fail))
                  refine wpQuiet_nil ⟨fun V m => ?_, fun V m => ?_⟩
                  · simp only [List.take_succ_cons, List.take_zero, obs_cons, obs_nil, List.getElem?_cons_zero, List.getElem?_cons_succ, fill_nil, fill_claim, fill_cells, fill_rowL, Loose.claim_i, Loose.cells_i, Loose.rowL_i, Act.put, List.setIfInBounds_toArray, List.set_cons_zero, List.set_cons_succ, fill_val, fill_rowS, Loose.val_i, Loose.rowS_i, fill_fw, Loose.fw_i, fill_rw, Loose.rw_i]
                    refine ⟨fun _ => ?_, fun _ => ?_, fun _ => ?_, trivial⟩
                    · go_wp2_with fail
                      exact post_claim rfl (Below.refl _ _)
                    · go_wp2_with fail
                      exact post_claim rfl (Below.refl _ _)
                    · go_wp2_with fail
                      exact post_rowL rfl (grow_size m)
                  · simp only [laws_nil, laws_claim, laws_cells, laws_rowL, laws_val, laws_rowS, laws_fw, laws_rw, dist_nil, dist_claim, dist_cells, dist_rowL, dist_val, dist_rowS, dist_fw, dist_rw, dist1_nil, dist1_claim, dist1_cells, dist1_rowL, dist1_val, dist1_fw, dist1_cells_rowL, dist1_rowL_cells, List.length_cons, List.length_nil, Nat.reduceAdd, Nat.reduceSub, and_true, fill_nil, fill_claim, fill_cells, fill_rowL, Loose.claim_i, Loose.cells_i, Loose.rowL_i, Act.put, List.setIfInBounds_toArray, List.set_cons_zero, List.set_cons_succ, fill_val, fill_rowS, Loose.val_i, Loose.rowS_i, fill_fw, Loose.fw_i, fill_rw, Loose.rw_i]
                    rintro ⟨gb, hv10, hgb, hbk⟩ _
                    rw [hv10]
                    clear hv10
                    have hgm := grow_below m
                    generalize grow wc m = wd at *
                    refine wpAny_ready (rs := [8]) (by kernel_rfl) (by simp) ?_
                    refine AllReady.cons rfl (fun K hK => ?_) AllReady.nil
                    refine step_add elVal (by rfl) _ _ (by rfl) (by rfl) (owns_belowW HKP.out hgm) (by have := hgm.size; omega) hbk 1 (by rfl) (by rfl) (by simp [zero7, Value.oneCell']) (by omega) (by omega) ?_
                    intro gg cap3 w3 ho3 hg3 hat
                    refine hK _ _ ?_
                    clear hK K
                    change wpAny _ _ _ _ _ _ (Act.put _ (some 29) _) _
                    try simp only [Act.put, List.setIfInBounds_toArray, List.set_cons_zero, List.set_cons_succ]
                    refine wpAny_take (i := 9) (v := ?vv9) rfl (by kernel_rfl) (by kernel_rfl) (by kernel_rfl) (fun _ _ _ h => h) (Or.inl ⟨by rfl, ?hy9⟩) ?_
                    case hy9 => (intro w; go_simp; try with_reducible rfl)
                    change wpAny _ _ _ _ _ _ (Act.put _ (some 30) _) _
                    try simp only [Act.put, List.setIfInBounds_toArray, List.set_cons_zero, List.set_cons_succ]
                    have q1 : w3.cell? ⟨gs, n, none⟩ = some (.slice poa k pc) := (hg3.cell_far _ (by have := hgm.size; simp; omega) (Ne.symm hneP)).trans ((hgm.cell hgsl).trans hcP)
                    have q2 : w3.frozen? ⟨gs, n, none⟩ = false := (hg3.frozen_far _ (by have := hgm.size; simp; omega) (Ne.symm hneP)).trans ((hgm.frozen hgsl).trans hfP)
                    refine wpAny_ready (rs := [10]) (by kernel_rfl) (by simp) ?_
                    refine AllReady.cons rfl (fun K hK => ?_) AllReady.nil
                    go_simp
                    refine hK _ _ ?_
                    clear hK K
                    refine wpAny_done (by kernel_rfl) ?_ _
                    have hp3 := HP2.out
                    have hrow3 : w3.ownsRow B 61 1 (.slice (some ⟨gs, 0, none⟩) (n + 1) c) (n + 1) (R.map Fw.v ++ [.slice poa k pc]) := by
                      have h1 := hp3.row
                      rw [List.length_append, List.length_singleton, HL.out.1, List.map_append] at h1
                      simp only [List.map_cons, List.map_nil, HK.out] at h1
                      exact (owns_belowW h1 hgm).kept hg3 (.inr fun e => hneP e.symm)
                    have hrow4 : (w3.setCell ⟨gs, n, none⟩ (.slice (some ⟨gg, 0, none⟩) (k + 1) cap3)).ownsRow B 61 1 (.slice (some ⟨gs, 0, none⟩) (n + 1) c) (n + 1) (R.map Fw.v ++ [.slice (some ⟨gg, 0, none⟩) (k + 1) cap3]) := by
                      have h2 := owns_setAt hrow3 (i := n) (by omega) (.slice (some ⟨gg, 0, none⟩) (k + 1) cap3)
                      rw [List.set_append, if_neg (by rw [List.length_map, HL.out.1]; omega), List.length_map, HL.out.1, Nat.sub_self] at h2
                      exact h2
                    have hgne : gg ≠ gs := fun e => owns_apart ho3 hrow3 (by decide) rfl (by rw [e]; rfl)
                    have ho4 := ho3.kept (grownBy_set w3 ⟨gs, n, none⟩ (.slice (some ⟨gg, 0, none⟩) (k + 1) cap3)) (.inr fun e => hgne (Option.some.inj e))
                    have hln : (fxs.flatMap fwcells).length = k * 7 := by rw [flat_length fwcells_length, HK.out]
                    have z : ∀ j u, zero7.toList[j]? = some u → (w3.setCell ⟨gs, n, none⟩ (.slice (some ⟨gg, 0, none⟩) (k + 1) cap3)).cell? ⟨gg, k * 7 + j, none⟩ = some u := fun j u hu => owns_cell ho4 (by rw [List.getElem?_append_right (by omega), hln, show k * 7 + j - k * 7 = j by omega]; exact hu)
                    have z0 := z 0 _ rfl
                    have z1 := z 1 _ rfl
                    have z2 := z 2 _ rfl
                    have z3 := z 3 _ rfl
                    have z4 := z 4 _ rfl
                    have z5 := z 5 _ rfl
                    have z6 := z 6 _ rfl
                    simp only [Nat.add_zero] at z0
                    have y0 := owns_frozen ho4 (k * 7)
                    have y1 := owns_frozen ho4 (k * 7 + 1)
                    have y2 := owns_frozen ho4 (k * 7 + 2)
                    have y3 := owns_frozen ho4 (k * 7 + 3)
                    have y4 := owns_frozen ho4 (k * 7 + 4)
                    have y5 := owns_frozen ho4 (k * 7 + 5)
                    have y6 := owns_frozen ho4 (k * 7 + 6)
                    have hcap3 := owns_cap ho3
                    have H4 := Lib.hid (grownBy_set w3 ⟨gs, n, none⟩ (.slice (some ⟨gg, 0, none⟩) (k + 1) cap3))
                    have H3 := Lib.hid (And.intro hgm (And.intro hg3 (And.intro hat (And.intro ho4 (And.intro hrow4 hgne)))))
                    clear z hp3 hrow3 hrow4 ho3 ho4 hg3 hgm hat q1 q2 cb0 cb1 cb2 cb3 cb4 cb5 fcb0 fcb1 fcb2 fcb3 fcb4 fcb5 lcb hcP hfP hbk cs0 fcs0 lcs
                    generalize w3.setCell _ _ = w4 at *
                    go_wp2_with fail
                    have HPUT := Lib.hid (show Sw B gS gO (puts w4 gg (k * 7) [.int .i64 tk, .string ⟨tt.toArray⟩, .int .i64 tn, .int .i64 td, .bool ti, .bool tid, .slice none 0 0]) (.slice (some ⟨gs, 0, none⟩) (n + 1) c) (.slice oo n oc) (R ++ [⟨ft, .slice (some ⟨gg, 0, none⟩) (k + 1) cap3, fxs ++ [(⟨tk, tt, (tn, td), ti, tid⟩, .slice none 0 0)]⟩]) (i + 1) ∧ Below B wc (puts w4 gg (k * 7) [.int .i64 tk, .string ⟨tt.toArray⟩, .int .i64 tn, .int .i64 td, .bool ti, .bool tid, .slice none 0 0]) from by
                      obtain ⟨hgm, hg3, hat, ho4, hrow, hgne⟩ := H3.out
                      have hk := HK.out
                      subst hk
                      have hG := grownBy_puts [.int .i64 tk, .string ⟨tt.toArray⟩, .int .i64 tn, .int .i64 td, .bool ti, .bool tid, .slice none 0 0] w4 gg (fxs.length * 7)
                      have hkid := owns_puts [.int .i64 tk, .string ⟨tt.toArray⟩, .int .i64 tn, .int .i64 td, .bool ti, .bool tid, .slice none 0 0] (fxs.length * 7) w4 _ _ ho4 (flat_length fwcells_length _) rfl (by simp; omega)
                      exact Sw.put (k := (⟨tk, tt, (tn, td), ti, tid⟩, .slice none 0 0)) HP2.out HL.out.1 hgm hg3 hat rfl hBw H4.out hG (Or.inl rfl) (Or.inr rfl) (hrow.kept hG (.inr fun e => hgne (Option.some.inj e).symm)) hkid)
                    clear z0 z1 z2 z3 z4 z5 z6 y0 y1 y2 y3 y4 y5 y6 H3 H4
                    simp only [puts] at HPUT
                    generalize World.setCell _ _ _ = w5 at *
                    go_roundg (N - (i + 1))
                    case measure => omega
                    case rel =>
                      refine ⟨i + 1, R ++ [⟨ft, .slice (some ⟨gg, 0, none⟩) (k + 1) cap3, fxs ++ [(⟨tk, tt, (tn, td), ti, tid⟩, .slice none 0 0)]⟩], gs, c, n, oo, oc, by go_num, Lib.hid ⟨by simp [HL.out.1], by have := HL.out; omega⟩, Lib.hid HPUT.out.1, Lib.hid ?_, Lib.hid (hb3.out.trans HPUT.out.2), hi, Nat.le_refl _⟩
                      rw [HF.out, skT_top, skT_top, stepT_cons, if_neg HNOT.out, if_neg (fun h => h HC0.out), List.map_append]
                      rfl
                | false =>
                  go_wp2_with fail
                  go_region_law
                    ((refine step_add elVal (by rfl) _ _ (by rfl) (by rfl) ((HKP.out.alloc _).drew) (by have := hBw; simp; omega) (B := wc.heap.size) (cs := #[.int .i64 tk, .string ⟨tt.toArray⟩, .int .i64 tn, .int .i64 td, .bool ti, .bool tid, .slice none 0 0]) (tc := 74) (Blk.new wc _ _) 1 (by rfl) (by rfl) (by simp [Value.oneCell']) (by omega) (by omega) ?_; intro gg cap3 w3 ho3 hg3 hat; have q1 : w3.cell? ⟨gs, n, none⟩ = some (.slice poa k pc) := (hg3.cell_far _ (by simp; omega) (Ne.symm hneP)).trans ((Below.cell (B := wc.heap.size) (Below.drew (below_box wc _)) hgsl).trans hcP); have q2 : w3.frozen? ⟨gs, n, none⟩ = false := (hg3.frozen_far _ (by simp; omega) (Ne.symm hneP)).trans ((Below.frozen (B := wc.heap.size) (Below.drew (below_box wc _)) hgsl).trans hfP); have qS : w3.cell? ⟨gS, 0, none⟩ = some (.slice (some ⟨gs, 0, none⟩) (n + 1) c) := (hg3.cell_far _ (by simp; omega) (Ne.symm hneS)).trans ((Below.cell (B := wc.heap.size) (Below.drew (below_box wc _)) lcs).trans cs0)))
                  all_goals
                    have hgm : Below wc.heap.size wc (wc.alloc (.cells #[.int .i64 tk, .string ⟨tt.toArray⟩, .int .i64 tn, .int .i64 td, .bool ti, .bool tid, .slice none 0 0] 74)).drew := Below.drew (below_box wc _)
                    have HPUT := Lib.hid (show Sw B gS gO (w3.setCell ⟨gs, n, none⟩ (.slice (some ⟨gg, 0, none⟩) (k + 1) cap3)) (.slice (some ⟨gs, 0, none⟩) (n + 1) c) (.slice oo n oc) (R ++ [⟨ft, .slice (some ⟨gg, 0, none⟩) (k + 1) cap3, fxs ++ [(⟨tk, tt, (tn, td), ti, tid⟩, .slice none 0 0)]⟩]) (i + 1) ∧ Below B wc (w3.setCell ⟨gs, n, none⟩ (.slice (some ⟨gg, 0, none⟩) (k + 1) cap3)) from by
                      have hk := HK.out
                      subst hk
                      have hrow3 : w3.ownsRow B 61 1 (.slice (some ⟨gs, 0, none⟩) (n + 1) c) (n + 1) (R.map Fw.v ++ [.slice poa fxs.length pc]) := by
                        have h1 := HP2.out.row
                        rw [List.length_append, List.length_singleton, HL.out.1, List.map_append] at h1
                        exact (owns_belowW h1 hgm).kept hg3 (.inr fun e => hneP e.symm)
                      have hrow4 : (w3.setCell ⟨gs, n, none⟩ (.slice (some ⟨gg, 0, none⟩) (fxs.length + 1) cap3)).ownsRow B 61 1 (.slice (some ⟨gs, 0, none⟩) (n + 1) c) (n + 1) (R.map Fw.v ++ [.slice (some ⟨gg, 0, none⟩) (fxs.length + 1) cap3]) := by
                        have h2 := owns_setAt hrow3 (i := n) (by omega) (.slice (some ⟨gg, 0, none⟩) (fxs.length + 1) cap3)
                        rw [List.set_append, if_neg (by rw [List.length_map, HL.out.1]; omega), List.length_map, HL.out.1, Nat.sub_self] at h2
                        exact h2
                      have hgne : gg ≠ gs := fun e => owns_apart ho3 hrow3 (by decide) rfl (by rw [e]; rfl)
                      have hG := grownBy_set w3 ⟨gs, n, none⟩ (.slice (some ⟨gg, 0, none⟩) (fxs.length + 1) cap3)
                      have ho4 := ho3.kept hG (.inr fun e => hgne (Option.some.inj e))
                      exact Sw.put (k := (⟨tk, tt, (tn, td), ti, tid⟩, .slice none 0 0)) HP2.out HL.out.1 hgm hg3 hat rfl hBw hG (grownBy_refl _ (some gg)) (Or.inl rfl) (Or.inr rfl) hrow4 ho4)
                    clear ho3 hg3 hat hgm q1 q2 qS cb0 cb1 cb2 cb3 cb4 cb5 fcb0 fcb1 fcb2 fcb3 fcb4 fcb5 lcb hcP hfP cs0 fcs0 lcs
                    generalize w3.setCell _ _ = w4 at *
                    go_wp2_with fail
                    go_roundg (N - (i + 1))
                    case measure => omega
                    case rel =>
                      refine ⟨i + 1, R ++ [⟨ft, .slice (some ⟨gg, 0, none⟩) (k + 1) cap3, fxs ++ [(⟨tk, tt, (tn, td), ti, tid⟩, .slice none 0 0)]⟩], gs, c, n, oo, oc, by go_num, Lib.hid ⟨by simp [HL.out.1], by have := HL.out; omega⟩, Lib.hid HPUT.out.1, Lib.hid ?_, Lib.hid (hb3.out.trans HPUT.out.2), hi, Nat.le_refl _⟩
                      rw [HF.out, skT_top, skT_top, stepT_cons, if_neg HNOT.out, if_neg (fun h => h HC0.out), List.map_append]
                      rfl
      · obtain rfl : i = N := by omega
        have gi : decide ((i : Int) < (i : Int)) = false := by simp
        have gin : decide (i < i) = false := by simp
        go_wp2_with fail
        go_meet
        case rel => exact ⟨S, gs, c, n, oo, oc, hL, hK, Lib.hid (by rw [hC.out, ← HX.out, ← HN.out, List.take_length]), hb⟩
  case rest =>
    obtain ⟨S, gs, c, n, oo, oc, hL, hK, hC, hb⟩ := hcut
    have HZ := Lib.hid (show Y = firstT (closeT (n + 1) (skT S)) by rw [HXY.out, ← hC.out, skT_length, hL.out.1])
    clear hC HK0 HB0 HXY HX
    go_upto_block 3 with fail
    go_cut [] (fun wx => ∃ (f : Fw) (gs c : Nat) (oo : Option Addr) (oc : Nat), Hid (∃ K, Sw B gS gO wx (.slice (some ⟨gs, 0, none⟩) (0 + 1) c) (.slice oo 0 oc) [f] K) ∧ Hid (Y = f.xs.map (·.1)) ∧ Hid (Below B w wx))
    case first =>
      go_wp2_with fail
      go_loopg [] n (fun q wr => ∃ (S : List Fw) (gs c m : Nat) (oo : Option Addr) (oc : Nat), Hid (S.length = m + 1) ∧ Hid (Sw B gS gO wr (.slice (some ⟨gs, 0, none⟩) (m + 1) c) (.slice oo m oc) S (N + n - m)) ∧ Hid (∃ j, m ≤ j ∧ Y = firstT (closeT j (skT S))) ∧ Hid (Below B w wr) ∧ m ≤ n ∧ m ≤ q)
      case atStart => exact ⟨S, gs, c, n, oo, oc, Lib.hid hL.out.1, Lib.hid (hK.out.mono (by omega)), Lib.hid ⟨n + 1, by omega, HZ.out⟩, hb, Nat.le_refl _, Nat.le_refl _⟩
      case round =>
        have HN2 := Lib.hid hL.out.2
        clear HZ hL hK hb
        obtain ⟨S, gs, c, m, oo, oc, hL, hK, hZ, hb, hmn, hq⟩ := hrel
        have hbS := hK.out.bs
        have hbO := hK.out.bo
        have cs0 : wr.cell? ⟨gS, 0, none⟩ = some (.slice (some ⟨gs, 0, none⟩) (m + 1) c) := (hbS).cell 0
        have fcs0 := (hbS).frozen 0
        have lcs := (hbS).lt
        have co0 : wr.cell? ⟨gO, 0, none⟩ = some (.slice oo m oc) := (hbO).cell 0
        have fco0 := (hbO).frozen 0
        have lco := (hbO).lt
        clear hbS hbO
        by_cases h2 : 0 < m
        · have g1 : decide ((0 : Int) < (m : Int)) = true := by simpa using h2
          have g1n : decide (0 < m) = true := by simpa using h2
          obtain ⟨R0, f, rfl⟩ := last_fw (S := S) (fun e => by have := hL.out; rw [e] at this; simp at this)
          obtain ⟨R, p, rfl⟩ := last_fw (S := R0) (fun e => by have := hL.out; rw [e] at this; simp at this; omega)
          obtain ⟨n', hn'⟩ : ∃ n', R.length = n' := ⟨_, rfl⟩
          have hMM : m = n' + 1 := by have := hL.out; simp at this; omega
          have HSH := Lib.hid (rshut_any B gS gO (N + n - m) n' R p f gs c oo oc wr hn' (by rw [hMM] at hK ⊢; exact hK.out) (by have := hb.out.size; have := HB.out; omega) (by have := HN2.out; omega) (by have := HN2.out; omega))
          have HMM := Lib.hid hMM
          clear hMM
          go_wp2_with fail
          ((with_reducible refine HSH.out.mono ?_); rintro e w2 ⟨rfl, ⟨v', kd, hsk⟩, hbb⟩)
          have H2 := Lib.hid (And.intro hsk hbb)
          clear hsk hbb HSH
          go_wp2_with fail
          go_roundg (m - 1)
          case measure => omega
          case rel =>
            obtain ⟨hsk, hbb⟩ := H2.out
            have hMM := HMM.out
            subst hMM
            obtain ⟨j, hj, hY⟩ := hZ.out
            obtain ⟨j, rfl⟩ : ∃ j', j = j' + 1 := ⟨j - 1, by omega⟩
            refine ⟨R ++ [⟨p.t, v', p.xs ++ [(f.t, kd)]⟩], gs, c, n', oo, oc, Lib.hid (by simp [hn']), Lib.hid (hsk.mono (by omega)), Lib.hid ⟨j, by omega, ?_⟩, Lib.hid (hb.out.trans hbb), by omega, by omega⟩
            rw [hY, closeT, if_pos (by rw [skT_length]; simp), shutT_sk, skT_top, List.map_append]
            rfl
        · have g1 : decide ((0 : Int) < (m : Int)) = false := by simp; omega
          have g1n : decide (0 < m) = false := by simp; omega
          obtain rfl : m = 0 := by omega
          obtain ⟨R0, f, rfl⟩ := last_fw (S := S) (fun e => by have := hL.out; rw [e] at this; simp at this)
          have hR0 : R0 = [] := by have := hL.out; simpa using this
          subst hR0
          go_wp2_with fail
          go_meet
          case rel =>
            obtain ⟨j, hj, hY⟩ := hZ.out
            refine ⟨f, gs, c, oo, oc, Lib.hid ⟨_, hK.out⟩, Lib.hid ?_, hb⟩
            rw [hY]
            cases j with
            | zero => rfl
            | succ j => rw [closeT, if_neg (by rw [skT_length]; simp)]; rfl
    case rest =>
      obtain ⟨f, gs, c, oo, oc, hK, hY, hb⟩ := hcut
      obtain ⟨K, hk⟩ := hK.out
      have hrow := hk.row
      have hcell : wc.cell? ⟨gs, 0, none⟩ = some f.v := owns_cell hrow rfl
      have hkf := hk.kid f (List.mem_singleton.2 rfl)
      have hbS := hk.bs
      have cs0 : wc.cell? ⟨gS, 0, none⟩ = some (.slice (some ⟨gs, 0, none⟩) 1 c) := (hbS).cell 0
      have fcs0 := (hbS).frozen 0
      have lcs := (hbS).lt
      obtain ⟨ft, fv, fxs⟩ := f
      simp only at hkf hcell hY
      obtain ⟨poa, pc, pg, rfl, hsl, hpos⟩ := sl_of_own hkf
      have HV := Lib.hid hkf
      clear hrow hkf hk hK hsl hpos hbS
      obtain ⟨k, hkk⟩ : ∃ k, fxs.length = k := ⟨_, rfl⟩
      have HKK := Lib.hid hkk
      rw [hkk] at hcell
      clear hkk
      go_wp2_with fail
      go_ret
      refine ⟨⟨_, fxs, rfl, ?_, hY.out.symm⟩, hb.out⟩
      rw [← HKK.out]
      exact HV.out

end Go.Proofs.Ytgjhaanpkfheeaa
