/- Of my texts: Values, Unit, CalcA, SameX. -/
import Derived.Test.YtplnhjmomomphaaDoorM04
import Derived.Test.YtplnhjmomomphaaDoorM14
import Derived.Test.YtplnhjmomomphaaDoorM19
import Derived.Test.YtplnhjmomomphaaDoorM22
import Derived.Test.YtplnhjmomomphaaDoorM23
namespace Go.Proofs.YtplnhjmomomphaaDoor
set_option linter.unusedVariables false
set_option linter.unusedSimpArgs false
open Go.RowKit

/-- a row that is one block -/
theorem owns_fresh {w : World} {base g n size : Nat} {e : TypeId} {cs : Array Value} (h : Blk w g e cs) (hb : base ≤ g) (hs : cs.size = n * size) (hn : n ≤ maxLen) : w.ownsRow base e size (.slice (some ⟨g, 0, none⟩) n n) n cs.toList :=
  ⟨by simpa using hs, Or.inr ⟨g, n, cs, rfl, hb, h, Nat.le_refl _, hn, hs, by rw [List.take_of_length_le (by simp [hs])]⟩⟩

theorem skC_top (R : List Fm) (f : Fm) : skC (R ++ [f]) = (f.t, f.kids.map Vl.c) :: skC R := by
  unfold skC
  rw [List.map_append, List.reverse_append]
  rfl
theorem skC_nil {R : List Fm} : skC R = [] ↔ R = [] := by
  unfold skC
  constructor
  · intro h
    have := congrArg List.length h
    simpa using this
  · rintro rfl; rfl
theorem skC_length (R : List Fm) : (skC R).length = R.length := by unfold skC; simp
theorem shutF_sk (R : List Fm) (p f : Fm) : shutF (skC (R ++ [p] ++ [f])) = (p.t, p.kids.map Vl.c ++ [.mk f.t (f.kids.map Vl.c)]) :: skC R := by
  rw [skC_top, skC_top]
  rfl

theorem Sk.begin {w : World} {g : Nat} (h : Blk w g 56 zero7) (B : Nat) (hB : B ≤ g) : Sk B w (.slice (some ⟨g, 0, none⟩) 1 1) [⟨zeroTk, .slice none 0 0, []⟩] 0 := by
  refine ⟨owns_fresh (n := 1) h hB rfl (by decide), fun x hx => ?_, List.pairwise_singleton _ _, fun x hx => ?_, fun x hx => ?_, 0, fun w' _ _ x hx k hk => ?_⟩
  all_goals obtain rfl := List.mem_singleton.1 hx
  · exact World.ownsRow_nil _ _ _ _
  · exact ⟨by unfold I64 zeroTk; decide, by unfold Is64 zeroTk; decide, Nat.zero_le _⟩
  · exact Nat.le_refl _
  · cases hk

theorem stepV_cons (t0 : Tk) (k0 : List Vt) (r : List (Tk × List Vt)) (t : Tk) : stepV ((t0, k0) :: r) t = if r ≠ [] ∧ t.kind = closeF t0.kind then shutF ((t0, k0) :: r) else if closeF t.kind ≠ 0 then (t, []) :: (t0, k0) :: r else (t0, k0 ++ [.mk t []]) :: r := rfl
theorem closer_same (k : Int) (w : World) : Calls Tryd.prog 30 #[.int .i64 k] w fun e w' => e = .returned (.int .i64 (closeF k)) ∧ w = w' := (closer_any k w).mono fun _ _ ⟨h1, h2⟩ => ⟨h1, h2.symm⟩
theorem last_of {S : List Fm} (h : S ≠ []) : ∃ R f, S = R ++ [f] := ⟨S.dropLast, S.getLast h, (List.dropLast_concat_getLast h).symm⟩

set_option maxRecDepth 20000 in
set_option maxHeartbeats 8000000 in
theorem values_any (l : List Tk) (oa : Option Addr) (cap b o : Nat) (w : World) (hs : Sl w oa l.length cap b o 6 (toksV l)) (h64 : ∀ t ∈ l, Tk64 t) (hm : l.length ≤ 274877906944) :
    Calls Tryd.prog 13 #[.slice oa l.length cap] w fun e w' => (∃ v, e = .returned v ∧ ∃ h, isVs (· < w.heap.size) h (valuesF l) v w') ∧ Below w.heap.size w w' := by
  obtain ⟨X, hX⟩ : ∃ X, l.foldl stepV [(zeroTk, [])] = X := ⟨_, rfl⟩
  obtain ⟨Y, hY⟩ : ∃ Y, valuesF l = Y := ⟨_, rfl⟩
  have hXY : Y = match closeV X.length X with
      | (_, k) :: _ => k
      | [] => [] := by rw [← hY, ← hX]; rfl
  rw [hY]
  obtain ⟨N, hN⟩ : ∃ N, l.length = N := ⟨_, rfl⟩
  rw [hN] at hm ⊢
  obtain ⟨B, hB⟩ : ∃ B, w.heap.size = B := ⟨_, rfl⟩
  simp only [hB]
  have hcl := hs.le
  have hcm := hs.max
  unfold maxLen at hcm
  rw [hN] at hcl
  have HS := Lib.hid hs
  have HX := Lib.hid hX
  have HXY := Lib.hid hXY
  have HN := Lib.hid hN
  have H64 := Lib.hid h64
  have HB := Lib.hid hB
  clear hs hX hXY hY hN h64 hB
  go_enter Tryd.func13, Tryd.ntmps13
  go_upto_region 2 with fail
  have HK0 := Lib.hid (show Sk B (w.alloc (.cells #[.int .i64 0, .string ⟨#[]⟩, .int .i64 0, .int .i64 0, .bool false, .bool false, .slice none 0 0] 56)) (.slice (some ⟨w.heap.size, 0, none⟩) 1 1) [⟨zeroTk, .slice none 0 0, []⟩] 0 from Sk.begin (Blk.new w 56 zero7) B (by rw [HB.out]; exact Nat.le_refl _))
  have HB0 := Lib.hid (show Below B w (w.alloc (.cells #[.int .i64 0, .string ⟨#[]⟩, .int .i64 0, .int .i64 0, .bool false, .bool false, .slice none 0 0] 56)) by rw [← HB.out]; exact below_box _ _)
  generalize w.heap.size = g0 at HK0 ⊢
  generalize w.alloc _ = w0 at *
  go_upto_block 0 with fail
  go_cut [3] (fun s wx => ∃ (S : List Fm) (gs c L : Nat), s = .slice (some ⟨gs, 0, none⟩) L c ∧ Hid (S.length = L ∧ S ≠ [] ∧ L ≤ N + 1) ∧ Hid (Sk B wx (.slice (some ⟨gs, 0, none⟩) L c) S N) ∧ Hid (skC S = X) ∧ Hid (Below B w wx))
  case first =>
    go_wp2_with fail
    go_loopg [3, 11] N (fun q s3 s wr => ∃ (i : Nat) (S : List Fm) (gs c L : Nat), s = .int .i64 i ∧ s3 = .slice (some ⟨gs, 0, none⟩) L c ∧ Hid (S.length = L ∧ S ≠ [] ∧ L ≤ i + 1) ∧ Hid (Sk B wr (.slice (some ⟨gs, 0, none⟩) L c) S i) ∧ Hid (skC S = (l.take i).foldl stepV [(zeroTk, [])]) ∧ Hid (Below B w wr) ∧ i ≤ N ∧ N - i ≤ q)
    case atStart => exact ⟨0, _, g0, 1, 1, rfl, rfl, Lib.hid ⟨rfl, by simp, Nat.le_refl _⟩, HK0, Lib.hid rfl, HB0, Nat.zero_le _, by omega⟩
    case round =>
      clear HK0 HB0
      obtain ⟨i, S, gs, c, L, rfl, rfl, hL, hK, hC, hb, hiN, hq⟩ := hrel
      by_cases hi : i < N
      · have gi : decide ((i : Int) < (N : Int)) = true := by simpa using hi
        have gin : decide (i < N) = true := by simpa using hi
        have hil : i < l.length := by rw [HN.out]; exact hi
        have hli : l[i]? = some l[i] := List.getElem?_eq_getElem hil
        have hs2 := HS.out.below (by rw [HB.out]; exact hb.out)
        obtain ⟨rfl, hbl⟩ := hs2.lies (by omega)
        have ht64 := H64.out _ (List.mem_of_getElem? hli)
        have hfold : (l.take (i + 1)).foldl stepV [(zeroTk, [])] = stepV (skC S) l[i] := by rw [List.take_succ_eq_append_getElem hil, List.foldl_append, ← hC.out]; rfl
        obtain ⟨t, ht⟩ : ∃ t, l[i] = t := ⟨_, rfl⟩
        rw [ht] at hli ht64 hfold
        have hcell : ∀ j v, (tkcells t)[j]? = some v → wr.cell? ⟨b, o + (i * 6 + j), none⟩ = some v := fun j v hv => hs2.cell _ _ (flat_at (f := tkcells) (sz := 6) (fun _ => rfl) l i t j v hli hv)
        obtain ⟨tk, tt, ⟨tn, td⟩, ti, tid⟩ := t
        have f0 : wr.cell? ⟨b, o + i * 6, none⟩ = some (.int .i64 tk) := hcell 0 _ rfl
        have f1 : wr.cell? ⟨b, o + i * 6 + 1, none⟩ = some (.string ⟨tt.toArray⟩) := hcell 1 _ rfl
        have f2 : wr.cell? ⟨b, o + i * 6 + 2, none⟩ = some (.int .i64 tn) := hcell 2 _ rfl
        have f3 : wr.cell? ⟨b, o + i * 6 + 3, none⟩ = some (.int .i64 td) := hcell 3 _ rfl
        have f4 : wr.cell? ⟨b, o + i * 6 + 4, none⟩ = some (.bool ti) := hcell 4 _ rfl
        have f5 : wr.cell? ⟨b, o + i * 6 + 5, none⟩ = some (.bool tid) := hcell 5 _ rfl
        have HF := Lib.hid hfold
        have HT := Lib.hid ht64
        obtain ⟨hL1, hL2, hL3⟩ := hL.out
        obtain ⟨R, f, rfl⟩ := last_of hL2
        obtain ⟨n, hn⟩ : ∃ n, R.length = n := ⟨_, rfl⟩
        have hLn : n + 1 = L := by rw [← hL1, List.length_append, hn]; rfl
        have iL : (L : Int) - 1 = (n : Int) := by omega
        have HL := Lib.hid (And.intro hn (And.intro hLn hL3))
        have hL4 : L ≤ 1099511627777 := by omega
        clear hcell hfold ht64 hs2 hli hil ht hL hL1 hL2 hL3 hn hC
        go_upto_region 6 with fail
        have hbx := Blk.new wr 51 #[.int .i64 tk, .string ⟨tt.toArray⟩, .int .i64 tn, .int .i64 td, .bool ti, .bool tid]
        have hb1 := Lib.hid (Below.alloc hb.out (by have := hb.out.size; rw [← HB.out]; exact this) (.cells #[.int .i64 tk, .string ⟨tt.toArray⟩, .int .i64 tn, .int .i64 td, .bool ti, .bool tid] 51))
        have hK1 := Lib.hid (hK.out.below (below_box wr (.cells #[.int .i64 tk, .string ⟨tt.toArray⟩, .int .i64 tn, .int .i64 td, .bool ti, .bool tid] 51)))
        clear f0 f1 f2 f3 f4 f5 hb hK
        generalize wr.heap.size = g5 at *
        generalize wr.alloc _ = w1 at *
        have cb0 : w1.cell? ⟨g5, 0, none⟩ = some (.int .i64 tk) := (hbx).cell 0
        have fcb0 := (hbx).frozen 0
        have cb1 : w1.cell? ⟨g5, 1, none⟩ = some (.string ⟨tt.toArray⟩) := (hbx).cell 1
        have fcb1 := (hbx).frozen 1
        have cb2 : w1.cell? ⟨g5, 2, none⟩ = some (.int .i64 tn) := (hbx).cell 2
        have fcb2 := (hbx).frozen 2
        have cb3 : w1.cell? ⟨g5, 3, none⟩ = some (.int .i64 td) := (hbx).cell 3
        have fcb3 := (hbx).frozen 3
        have cb4 : w1.cell? ⟨g5, 4, none⟩ = some (.bool ti) := (hbx).cell 4
        have fcb4 := (hbx).frozen 4
        have cb5 : w1.cell? ⟨g5, 5, none⟩ = some (.bool tid) := (hbx).cell 5
        have fcb5 := (hbx).frozen 5
        have lcb := (hbx).lt
        have HBX := Lib.hid hbx
        clear hbx
        have hrow := hK1.out.row
        rw [List.length_append, List.length_singleton, HL.out.1, HL.out.2.1, List.flatMap_append, List.flatMap_singleton] at hrow
        obtain ⟨fk, hfk⟩ : ∃ fk, f.t.kind = fk := ⟨_, rfl⟩
        have hRl : (R.flatMap fmcells).length = n * 7 := by rw [flat_length fmcells_length, HL.out.1]
        have hc0 : w1.cell? ⟨gs, n * 7, none⟩ = some (.int .i64 fk) := owns_cell hrow (by rw [List.getElem?_append_right (by omega), hRl, Nat.sub_self, ← hfk]; rfl)
        have iN0 : (0 : Int) ≤ (n : Int) := Int.natCast_nonneg _
        have iNn : (n : Int) < (L : Int) := by omega
        have iNn2 : n < L := by omega
        have hgsl : gs < w1.heap.size := (hrow.lt gs rfl).2
        have HFK := Lib.hid hfk
        have HRL := Lib.hid hRl
        clear hrow hfk hRl
        go_cut [31] (fun s wx => s = .bool (decide (0 < n) && (tk == closeF fk)) ∧ Hid (Below w1.heap.size w1 wx))
        case first =>
          by_cases h0 : 0 < n
          · have g1 : decide ((0 : Int) < (n : Int)) = true := by simpa using h0
            have g2 : decide (0 < n) = true := by simpa using h0
            refine wp_region_grow (by kernel_rfl) (by kernel_rfl) ?_
            repeat (go_big_quiet_step ((first | (go_at_call 30; with_reducible exact calls_grow_same (closer_same fk _)))))
            refine wpQuiet_nil ?_
            rintro _ ⟨m, rfl⟩
            go_wp2_with fail
            go_meet
            case rel => exact ⟨by simp [g2], Lib.hid (grow_below m)⟩
          · have g1 : decide ((0 : Int) < (n : Int)) = false := by simp; omega
            have g2 : decide (0 < n) = false := by simp; omega
            refine wp_region_grow (by kernel_rfl) (by kernel_rfl) ?_
            repeat (go_big_quiet_step ((first | (go_at_call 30; with_reducible exact calls_grow_same (closer_same fk _)))))
            refine wpQuiet_nil ?_
            rintro _ ⟨m, rfl⟩
            go_wp2_with fail
            go_meet
            case rel => exact ⟨by simp [g2], Lib.hid (grow_below m)⟩
        case rest =>
          obtain ⟨rfl, hbw⟩ := hcut
          have hK2 := Lib.hid (hK1.out.below hbw.out)
          have hb2 := Lib.hid (hb1.out.trans (Below.mono hbw.out (by have := hb1.out.size; have := HB.out; omega)))
          have hbx := HBX.out.below hbw.out HBX.out.lt
          have hwB : B ≤ wc.heap.size := by have := hb2.out.size; have := HB.out; omega
          clear hbw hb1 hK1 HBX cb0 cb1 cb2 cb3 cb4 cb5 fcb0 fcb1 fcb2 fcb3 fcb4 fcb5 lcb hc0 hgsl
          by_cases hA : 0 < n ∧ tk = closeF fk
          · -- the innermost is closed
            have g6 : (decide (0 < n) && (tk == closeF fk)) = true := by simp [hA.1, hA.2]
            obtain ⟨R, p, rfl⟩ := last_of (S := R) (fun e => by have := HL.out.1; rw [e] at this; simp at this; omega)
            obtain ⟨n', hn'⟩ : ∃ n', R.length = n' := ⟨_, rfl⟩
            have hnn : n' + 1 = n := by rw [← HL.out.1, List.length_append, hn']; rfl
            have hLL : n' + 2 = L := by have := HL.out.2.1; omega
            have hsh := shut_any B i n' R p f gs c wc hn' (by rw [hLL]; exact hK2.out) hwB (by omega)
            rw [hnn, hLL] at hsh
            have HSH := Lib.hid hsh
            have HA := Lib.hid hA
            clear hsh hA hnn hLL hbx
            rw [g6]
            clear g6
            go_wp2_with fail
            ((with_reducible refine HSH.out.mono ?_); rintro e w2 ⟨rfl, ⟨v', kd, hsk, hkc⟩, hbb⟩)
            have H2 := Lib.hid (And.intro hsk (And.intro hkc hbb))
            clear hsk hkc hbb HSH
            go_wp2_with fail
            go_roundg (N - (i + 1))
            case measure => omega
            case rel =>
              obtain ⟨hsk, hkc, hbb⟩ := H2.out
              refine ⟨i + 1, _, gs, c, n, by go_num, rfl, Lib.hid ⟨by rw [List.length_append, ← HL.out.1, List.length_append]; rfl, by simp, by have := HL.out; omega⟩, Lib.hid hsk, Lib.hid ?_, Lib.hid (hb2.out.trans hbb), hi, Nat.le_refl _⟩
              rw [HF.out, skC_top, skC_top, skC_top]
              rw [stepV_cons, if_pos ⟨by simp, by rw [HFK.out]; exact HA.out.2⟩]
              simp only [shutF, List.map_append, List.map_cons, List.map_nil, hkc]
          · have g6 : (decide (0 < n) && (tk == closeF fk)) = false := by
              apply Bool.eq_false_iff.2
              intro h
              simp only [Bool.and_eq_true, decide_eq_true_eq, beq_iff_eq] at h
              exact hA h
            have hnot : ¬ (skC R ≠ [] ∧ tk = closeF f.t.kind) := fun h => hA ⟨by
              rcases Nat.eq_zero_or_pos n with h0 | h0
              · have hr : R = [] := List.eq_nil_of_length_eq_zero (by rw [HL.out.1, h0])
                exact absurd (skC_nil.2 hr) h.1
              · exact h0, by rw [← HFK.out]; exact h.2⟩
            have HNOT := Lib.hid hnot
            rw [g6]
            clear g6 hA hnot
            have cd0 : wc.cell? ⟨g5, 0, none⟩ = some (.int .i64 tk) := (hbx).cell 0
            have fcd0 := (hbx).frozen 0
            have cd1 : wc.cell? ⟨g5, 1, none⟩ = some (.string ⟨tt.toArray⟩) := (hbx).cell 1
            have fcd1 := (hbx).frozen 1
            have cd2 : wc.cell? ⟨g5, 2, none⟩ = some (.int .i64 tn) := (hbx).cell 2
            have fcd2 := (hbx).frozen 2
            have cd3 : wc.cell? ⟨g5, 3, none⟩ = some (.int .i64 td) := (hbx).cell 3
            have fcd3 := (hbx).frozen 3
            have cd4 : wc.cell? ⟨g5, 4, none⟩ = some (.bool ti) := (hbx).cell 4
            have fcd4 := (hbx).frozen 4
            have cd5 : wc.cell? ⟨g5, 5, none⟩ = some (.bool tid) := (hbx).cell 5
            have fcd5 := (hbx).frozen 5
            have lcd := (hbx).lt
            by_cases hO : closeF tk = 0
            · -- a value that opens nothing
              have gO : (closeF tk != 0) = false := by simp [hO]
              have HO := Lib.hid hO
              clear hO
              go_wp2_with fail
              go_wp2_with fail
              ((with_reducible refine (closer_same tk _).mono ?_); rintro e w' ⟨rfl, rfl⟩)
              have hk2 := hK2.out
              rw [← HL.out.2.1] at hk2
              have hfm : f ∈ R ++ [f] := List.mem_append_right _ (List.mem_singleton.2 rfl)
              have hkP := hk2.kid f hfm
              have hlP := hk2.len f hfm
              have hrowP := hk2.row
              rw [List.length_append, List.length_singleton, HL.out.1, List.flatMap_append, List.flatMap_singleton] at hrowP
              have hRl := HRL.out
              have hcP : wc.cell? ⟨gs, n * 7 + 6, none⟩ = some f.v := owns_cell hrowP (by rw [List.getElem?_append_right (by omega), hRl, show n * 7 + 6 - n * 7 = 6 by omega]; rfl)
              have hfP : wc.frozen? ⟨gs, n * 7 + 6, none⟩ = false := owns_frozen hrowP _
              have hgsl := (hrowP.lt gs rfl).2
              have hneP : f.v.ownBlock ≠ some gs := fun e => owns_apart hkP hrowP (by decide) e rfl
              obtain ⟨ft, fv, fkids⟩ := f
              simp only at hkP hlP hcP hneP
              obtain ⟨poa, pc, pg, rfl, _, _⟩ := sl_of_own hkP
              obtain ⟨k, hk⟩ : ∃ k, fkids.length = k := ⟨_, rfl⟩
              rw [hk] at hkP hlP hcP hneP
              have HKP := Lib.hid hkP
              have HKK := Lib.hid hk
              have HK2 := Lib.hid hk2
              have hkk : k ≤ 1099511627776 := by omega
              have hk1 : (k : Int) < (k : Int) + 1 := by omega
              have hwr : IntKind.i64.wrap (n : Int) = (n : Int) := by rw [IntKind.wrap_i64]; omega
              clear hkP hk hk2 hrowP hfm hK2 hRl cd0 cd1 cd2 cd3 cd4 cd5 fcd0 fcd1 fcd2 fcd3 fcd4 fcd5 lcd
              have cd0 := hbx.cell 0
              have cd1 := hbx.cell 1
              have cd2 := hbx.cell 2
              have cd3 := hbx.cell 3
              have cd4 := hbx.cell 4
              have cd5 := hbx.cell 5
              have lcd := hbx.lt
              simp only [List.getElem?_toArray, List.getElem?_cons_zero, List.getElem?_cons_succ] at cd0 cd1 cd2 cd3 cd4 cd5
              go_wp2_with fail
              refine wp_region_phase 9 [Loose.claim 6 49 (.agg #[.int .i64 tk, .string ⟨tt.toArray⟩, .int .i64 tn, .int .i64 td, .bool ti, .bool tid, .slice none 0 0]), Loose.claim 7 50 (.int .i64 k), Loose.rowL 8 51 53 1 #[.int .i64 0, .string ⟨#[]⟩, .int .i64 0, .int .i64 0, .bool false, .bool false, .slice none 0 0] wc.heap.size] (by kernel_rfl) (by kernel_rfl) (by kernel_rfl) rfl (by kernel_rfl) (by kernel_rfl) (by kernel_rfl) (by kernel_rfl) ?_
              simp only [List.take_succ_cons, List.take_zero, headL, hushL, List.find?, Loose.claim_i, Loose.cells_i, Loose.rowL_i, Loose.claim_hush, Loose.cells_hush, Loose.rowL_hush, Loose.val_i, Loose.rowS_i, Loose.val_hush, Loose.rowS_hush, Loose.fw_i, Loose.fw_hush, Loose.rw_i, Loose.rw_hush, Nat.reduceBEq, Nat.reduceAdd]
              repeat (go_big_quiet_step (fail))
              refine wpQuiet_nil ⟨fun V m => ?_, fun V m => ?_⟩
              · simp only [List.take_succ_cons, List.take_zero, obs_cons, obs_nil, List.getElem?_cons_zero, List.getElem?_cons_succ, fill_nil, fill_claim, fill_cells, fill_rowL, Loose.claim_i, Loose.cells_i, Loose.rowL_i, Act.put, List.setIfInBounds_toArray, List.set_cons_zero, List.set_cons_succ, fill_val, fill_rowS, Loose.val_i, Loose.rowS_i, fill_fw, Loose.fw_i, fill_rw, Loose.rw_i]
                refine ⟨fun _ => ?_, fun _ => ?_, fun _ => ?_, trivial⟩
                · go_wp2_with fail
                  exact post_claim rfl (Below.refl _ _)
                · go_wp2_with fail
                  exact post_claim rfl (Below.refl _ _)
                · go_wp2_with fail
                  exact post_rowL rfl (grow_size m)
              · simp only [laws_nil, laws_claim, laws_cells, laws_rowL, laws_val, laws_rowS, laws_fw, laws_rw, dist_nil, dist_claim, dist_cells, dist_rowL, dist_val, dist_rowS, dist_fw, dist_rw, dist1_nil, dist1_claim, dist1_cells, dist1_rowL, dist1_val, dist1_fw, dist1_cells_rowL, dist1_rowL_cells, List.length_cons, List.length_nil, Nat.reduceAdd, Nat.reduceSub, and_true, fill_nil, fill_claim, fill_cells, fill_rowL, Loose.claim_i, Loose.cells_i, Loose.rowL_i, Act.put, List.setIfInBounds_toArray, List.set_cons_zero, List.set_cons_succ, fill_val, fill_rowS, Loose.val_i, Loose.rowS_i, fill_fw, Loose.fw_i, fill_rw, Loose.rw_i]
                rintro ⟨gb, hv8, hgb, hbk⟩ _
                rw [hv8]
                clear hv8
                have hgm := grow_below m
                generalize grow wc m = wd at *
                refine wpAny_ready (rs := [9]) (by kernel_rfl) (by simp) ?_
                refine AllReady.cons rfl (fun K hK => ?_) AllReady.nil
                refine step_add elVal (by rfl) _ _ (by rfl) (by rfl) (owns_belowW HKP.out hgm) (by have := hgm.size; omega) hbk 1 (by rfl) (by rfl) (by simp [Value.oneCell']) (by omega) (by omega) ?_
                intro gg cap3 w3 ho3 hg3 hat
                refine hK _ _ ?_
                clear hK K
                change wpAny _ _ _ _ _ _ (Act.put _ (some 52) _) _
                try simp only [Act.put, List.setIfInBounds_toArray, List.set_cons_zero, List.set_cons_succ]
                refine wpAny_take (i := 10) (v := ?vv10) rfl (by kernel_rfl) (by kernel_rfl) (by kernel_rfl) (fun _ _ _ h => h) (Or.inl ⟨by rfl, ?hy10⟩) ?_
                case hy10 => (intro w; go_simp; try with_reducible rfl)
                change wpAny _ _ _ _ _ _ (Act.put _ (some 53) _) _
                try simp only [Act.put, List.setIfInBounds_toArray, List.set_cons_zero, List.set_cons_succ]
                refine wpAny_take (i := 12) (v := ?vv12) rfl (by kernel_rfl) (by kernel_rfl) (by kernel_rfl) (fun _ _ _ h => h) (Or.inl ⟨by rfl, ?hy12⟩) ?_
                case hy12 => (intro w; go_simp; try with_reducible rfl)
                change wpAny _ _ _ _ _ _ (Act.put _ (some 54) _) _
                try simp only [Act.put, List.setIfInBounds_toArray, List.set_cons_zero, List.set_cons_succ]
                refine wpAny_take (i := 13) (v := ?vv13) rfl (by kernel_rfl) (by kernel_rfl) (by kernel_rfl) (fun _ _ _ h => h) (Or.inl ⟨by rfl, ?hy13⟩) ?_
                case hy13 => (intro w; go_simp; try with_reducible rfl)
                change wpAny _ _ _ _ _ _ (Act.put _ (some 55) _) _
                try simp only [Act.put, List.setIfInBounds_toArray, List.set_cons_zero, List.set_cons_succ]
                have hk2 := HK2.out
                have hkk' := HKK.out
                have hg3' : wd.grownBy w3 (Value.slice poa fkids.length pc).ownBlock := by rw [HKK.out]; exact hg3
                have hfr := hk2.frames HL.out.1 hgm hg3'
                have hgne : gg ≠ gs := fun e => owns_apart ho3 hfr (by decide) rfl (by rw [e]; rfl)
                have hgne' : gs ≠ gg := Ne.symm hgne
                have q1 : w3.cell? ⟨gs, n * 7 + 6, none⟩ = some (.slice poa k pc) := (hg3.cell_far _ (by have := hgm.size; simp; omega) (Ne.symm hneP)).trans ((hgm.cell hgsl).trans hcP)
                have q2 : w3.frozen? ⟨gs, n * 7 + 6, none⟩ = false := (hg3.frozen_far _ (by have := hgm.size; simp; omega) (Ne.symm hneP)).trans ((hgm.frozen hgsl).trans hfP)
                have hln : (fkids.flatMap vcells).length = k * 7 := by rw [flat_length vcells_length, HKK.out]
                have z : ∀ j u, (#[.int .i64 0, .string ⟨#[]⟩, .int .i64 0, .int .i64 0, .bool false, .bool false, .slice none 0 0] : Array Value).toList[j]? = some u → w3.cell? ⟨gg, k * 7 + j, none⟩ = some u := fun j u hu => owns_cell ho3 (by rw [List.getElem?_append_right (by omega), hln, show k * 7 + j - k * 7 = j by omega]; exact hu)
                have z0 := z 0 _ rfl
                have z1 := z 1 _ rfl
                have z2 := z 2 _ rfl
                have z3 := z 3 _ rfl
                have z4 := z 4 _ rfl
                have z5 := z 5 _ rfl
                have z6 := z 6 _ rfl
                simp only [Nat.add_zero] at z0
                have y0 := owns_frozen ho3 (k * 7)
                have y1 := owns_frozen ho3 (k * 7 + 1)
                have y2 := owns_frozen ho3 (k * 7 + 2)
                have y3 := owns_frozen ho3 (k * 7 + 3)
                have y4 := owns_frozen ho3 (k * 7 + 4)
                have y5 := owns_frozen ho3 (k * 7 + 5)
                have y6 := owns_frozen ho3 (k * 7 + 6)
                have lgg := (ho3.lt gg rfl).2
                have lgs := (hfr.lt gs rfl).2
                have hcap3 := owns_cap ho3
                have H3 := Lib.hid (And.intro hgm (And.intro hg3' (And.intro hat (And.intro ho3 (And.intro hfr hgne)))))
                clear z hk2 hkk' hg3' hfr ho3 hg3 hgm hat hcP hfP hbk cd0 cd1 cd2 cd3 cd4 cd5 lcd hbx hgne
                refine wpAny_ready (rs := [11, 14]) (by kernel_rfl) (by simp) ?_
                refine AllReady.cons rfl (fun K hK => ?_) (AllReady.cons rfl (fun K hK => ?_) AllReady.nil)
                · go_simp
                  refine hK _ _ ?_
                  clear hK K
                  refine wpAny_ready (rs := [14]) (by kernel_rfl) (by simp) ?_
                  refine AllReady.cons rfl (fun K hK => ?_) AllReady.nil
                  go_simp
                  refine hK _ _ ?_
                  clear hK K
                  refine wpAny_done (by kernel_rfl) ?_ _
                  obtain ⟨hgm, hg3, hat, ho3, hfr, hgne⟩ := H3.out
                  have hk := HKK.out
                  subst hk
                  have hG1 := grownBy_puts [.int .i64 tk, .string ⟨tt.toArray⟩, .int .i64 tn, .int .i64 td, .bool ti, .bool tid, .slice none 0 0] w3 gg (fkids.length * 7)
                  have hkid := owns_puts [.int .i64 tk, .string ⟨tt.toArray⟩, .int .i64 tn, .int .i64 td, .bool ti, .bool tid, .slice none 0 0] (fkids.length * 7) w3 _ _ ho3 (flat_length vcells_length _) rfl (by simp; omega)
                  have hfr4 := hfr.kept hG1 (.inr fun e => hgne (Option.some.inj e).symm)
                  have hfr5 := frames_put hfr4 HL.out.1 (.slice (some ⟨gg, 0, none⟩) (fkids.length + 1) cap3)
                  have hG2 := grownBy_set (puts w3 gg (fkids.length * 7) [.int .i64 tk, .string ⟨tt.toArray⟩, .int .i64 tn, .int .i64 td, .bool ti, .bool tid, .slice none 0 0]) ⟨gs, n * 7 + 6, none⟩ (.slice (some ⟨gg, 0, none⟩) (fkids.length + 1) cap3)
                  have hkid5 := hkid.kept hG2 (.inr fun e => hgne (Option.some.inj e))
                  have HPUT := Lib.hid (Sk.put (k := .mk ⟨tk, tt, (tn, td), ti, tid⟩ none 0 0 0 []) HK2.out HL.out.1 ⟨1, fun w' _ _ => ⟨HT.out, by simp, ⟨rfl, Nat.le_refl _, Nat.zero_le _, fun h => absurd h (by simp), fun j v h => by simp at h⟩, fun i x h => by simp at h⟩⟩ hgm hg3 hat rfl hwB hG1 hG2 (Or.inr rfl) (Or.inl rfl) hfr5 hkid5)
                  clear hG1 hG2 hfr4 hfr5 hgm hg3 hat ho3 hfr hgne hkid hkid5 q1 q2 z0 z1 z2 z3 z4 z5 z6 y0 y1 y2 y3 y4 y5 y6
                  simp only [puts] at HPUT
                  generalize World.setCell _ _ _ = w5 at *
                  go_wp2_with fail
                  go_roundg (N - (i + 1))
                  case measure => omega
                  case rel =>
                    refine ⟨i + 1, R ++ [⟨ft, .slice (some ⟨gg, 0, none⟩) (fkids.length + 1) cap3, fkids ++ [.mk ⟨tk, tt, (tn, td), ti, tid⟩ none 0 0 0 []]⟩], gs, c, L, by go_num, rfl, Lib.hid ⟨by rw [List.length_append, List.length_singleton, HL.out.1, HL.out.2.1], by simp, by have := HL.out; omega⟩, Lib.hid (by rw [← HL.out.2.1]; exact HPUT.out.1), Lib.hid ?_, Lib.hid (hb2.out.trans HPUT.out.2), hi, Nat.le_refl _⟩
                    rw [HF.out, skC_top, skC_top, stepV_cons, if_neg HNOT.out, if_neg (by rw [HO.out]; simp), List.map_append]
                    rfl
                · go_simp
                  refine hK _ _ ?_
                  clear hK K
                  refine wpAny_ready (rs := [11]) (by kernel_rfl) (by simp) ?_
                  refine AllReady.cons rfl (fun K hK => ?_) AllReady.nil
                  go_simp
                  refine hK _ _ ?_
                  clear hK K
                  refine wpAny_done (by kernel_rfl) ?_ _
                  obtain ⟨hgm, hg3, hat, ho3, hfr, hgne⟩ := H3.out
                  have hk := HKK.out
                  subst hk
                  have hG1 := grownBy_set w3 ⟨gs, n * 7 + 6, none⟩ (.slice (some ⟨gg, 0, none⟩) (fkids.length + 1) cap3)
                  have hfr4 := frames_put hfr HL.out.1 (.slice (some ⟨gg, 0, none⟩) (fkids.length + 1) cap3)
                  have ho4 := ho3.kept hG1 (.inr fun e => hgne (Option.some.inj e))
                  have hG2 := grownBy_puts [.int .i64 tk, .string ⟨tt.toArray⟩, .int .i64 tn, .int .i64 td, .bool ti, .bool tid, .slice none 0 0] (w3.setCell ⟨gs, n * 7 + 6, none⟩ (.slice (some ⟨gg, 0, none⟩) (fkids.length + 1) cap3)) gg (fkids.length * 7)
                  have hkid5 := owns_puts [.int .i64 tk, .string ⟨tt.toArray⟩, .int .i64 tn, .int .i64 td, .bool ti, .bool tid, .slice none 0 0] (fkids.length * 7) (w3.setCell ⟨gs, n * 7 + 6, none⟩ (.slice (some ⟨gg, 0, none⟩) (fkids.length + 1) cap3)) _ _ ho4 (flat_length vcells_length _) rfl (by simp; omega)
                  have hfr5 := hfr4.kept hG2 (.inr fun e => hgne (Option.some.inj e).symm)
                  have HPUT := Lib.hid (Sk.put (k := .mk ⟨tk, tt, (tn, td), ti, tid⟩ none 0 0 0 []) HK2.out HL.out.1 ⟨1, fun w' _ _ => ⟨HT.out, by simp, ⟨rfl, Nat.le_refl _, Nat.zero_le _, fun h => absurd h (by simp), fun j v h => by simp at h⟩, fun i x h => by simp at h⟩⟩ hgm hg3 hat rfl hwB hG1 hG2 (Or.inl rfl) (Or.inr rfl) hfr5 hkid5)
                  clear hG1 hG2 hfr4 hfr5 hgm hg3 hat ho3 hfr hgne ho4 hkid5 q1 q2 z0 z1 z2 z3 z4 z5 z6 y0 y1 y2 y3 y4 y5 y6
                  simp only [puts] at HPUT
                  generalize World.setCell _ _ _ = w5 at *
                  go_wp2_with fail
                  go_roundg (N - (i + 1))
                  case measure => omega
                  case rel =>
                    refine ⟨i + 1, R ++ [⟨ft, .slice (some ⟨gg, 0, none⟩) (fkids.length + 1) cap3, fkids ++ [.mk ⟨tk, tt, (tn, td), ti, tid⟩ none 0 0 0 []]⟩], gs, c, L, by go_num, rfl, Lib.hid ⟨by rw [List.length_append, List.length_singleton, HL.out.1, HL.out.2.1], by simp, by have := HL.out; omega⟩, Lib.hid (by rw [← HL.out.2.1]; exact HPUT.out.1), Lib.hid ?_, Lib.hid (hb2.out.trans HPUT.out.2), hi, Nat.le_refl _⟩
                    rw [HF.out, skC_top, skC_top, stepV_cons, if_neg HNOT.out, if_neg (by rw [HO.out]; simp), List.map_append]
                    rfl
            · have gO : (closeF tk != 0) = true := by simpa using hO
              have HO := Lib.hid hO
              clear hO
              go_wp2_with fail
              go_wp2_with fail
              ((with_reducible refine (closer_same tk _).mono ?_); rintro e w' ⟨rfl, rfl⟩)
              have hk2 := hK2.out
              have hrowP := hk2.row
              rw [List.length_append, List.length_singleton, HL.out.1, HL.out.2.1] at hrowP
              have HK2 := Lib.hid hk2
              have HRW := Lib.hid hrowP
              clear hk2 hrowP hK2
              go_wp2_with (at_builtin; refine wpList_add elFrame rfl _ _ rfl rfl (HRW.out.alloc _) (by simp; omega) (Blk.new wc _ _) 1 rfl rfl (by simp [Value.oneCell']) (by omega) (by omega) ?_; intro gg cap3 w3 ho3 hg3 hat hvb; have H3 := Lib.hid (And.intro ho3 (And.intro hg3 (And.intro hat hvb))); clear ho3 hg3 hat hvb)
              go_roundg (N - (i + 1))
              case measure => omega
              case rel =>
                obtain ⟨ho3, hg3, hat, hvb⟩ := H3.out
                have hl1 : (R ++ [f]).length = L := by rw [List.length_append, List.length_singleton, HL.out.1, HL.out.2.1]
                have hgc := grownBy_trans (World.grownBy_alloc wc _ _) hg3
                have hop := HK2.out.open (t := ⟨tk, tt, (tn, td), ti, tid⟩) (vs' := .slice (some ⟨gg, 0, none⟩) (L + 1) cap3) (gg := gg) HT.out rfl (hat.imp id fun e => by rw [e]; simp) hgc (by rw [hl1]; exact ho3)
                refine ⟨i + 1, _, gg, cap3, L + 1, by go_num, rfl, Lib.hid ⟨by rw [List.length_append, hl1]; rfl, by simp, by have := HL.out; omega⟩, Lib.hid (hop.mono (by omega)), Lib.hid ?_, Lib.hid (hb2.out.trans (Below.grown (Below.refl B wc) hgc hwB (fun k hk => (HRW.out.lt k hk).1))), hi, Nat.le_refl _⟩
                rw [HF.out, skC_top, skC_top, stepV_cons, if_neg HNOT.out, if_pos HO.out]
                rfl
      · obtain rfl : i = N := by omega
        have gi : decide ((i : Int) < (i : Int)) = false := by simp
        have gin : decide (i < i) = false := by simp
        go_wp2_with fail
        go_meet
        case rel => exact ⟨S, gs, c, L, rfl, hL, hK, Lib.hid (by rw [hC.out, ← HX.out, ← HN.out, List.take_length]), hb⟩
  case rest =>
    obtain ⟨S, gs, c, L, rfl, hL, hK, hC, hb⟩ := hcut
    obtain ⟨hL1, hL2, hL3⟩ := hL.out
    have HZ := Lib.hid (show Y = match closeV L (skC S) with
      | (_, k) :: _ => k
      | [] => [] by rw [HXY.out, hC.out, ← hL1, ← skC_length, hC.out])
    have HL0 := Lib.hid hL1
    have HS0 := Lib.hid hL2
    clear hL hL1 hL2 hC HK0 HB0 HXY HX
    go_upto_block 2 with fail
    go_cut [3] (fun s wx => ∃ (f : Fm) (gs c : Nat), s = .slice (some ⟨gs, 0, none⟩) 1 c ∧ Hid (∃ K, K ≤ N + N + 2 ∧ Sk B wx (.slice (some ⟨gs, 0, none⟩) 1 c) [f] K) ∧ Hid (Y = f.kids.map Vl.c) ∧ Hid (Below B w wx))
    case first =>
      go_wp2_with fail
      go_loopg [3] L (fun q s3 wr => ∃ (S : List Fm) (gs c M : Nat), s3 = .slice (some ⟨gs, 0, none⟩) M c ∧ Hid (S.length = M ∧ S ≠ []) ∧ Hid (Sk B wr (.slice (some ⟨gs, 0, none⟩) M c) S (N + L - M)) ∧ Hid (∃ m, M ≤ m + 1 ∧ Y = match closeV m (skC S) with
        | (_, k) :: _ => k
        | [] => []) ∧ Hid (Below B w wr) ∧ M ≤ L ∧ M ≤ q)
      case atStart => exact ⟨S, gs, c, L, rfl, Lib.hid ⟨HL0.out, HS0.out⟩, Lib.hid (hK.out.mono (by omega)), Lib.hid ⟨L, by omega, HZ.out⟩, hb, Nat.le_refl _, Nat.le_refl _⟩
      case round =>
        clear HZ HL0 HS0 hK hb
        obtain ⟨S, gs, c, M, rfl, hM, hK, hZ, hb, hML, hq⟩ := hrel
        by_cases h2 : 2 ≤ M
        · have g1 : decide ((1 : Int) < (M : Int)) = true := by simp; omega
          have g1n : decide (1 < M) = true := by simp; omega
          obtain ⟨R0, f, rfl⟩ := last_of hM.out.2
          obtain ⟨R, p, rfl⟩ := last_of (S := R0) (fun e => by have := hM.out.1; rw [e] at this; simp at this; omega)
          obtain ⟨n', hn'⟩ : ∃ n', R.length = n' := ⟨_, rfl⟩
          have hMM : n' + 2 = M := by have := hM.out.1; simp at this; omega
          have hsh := shut_any B (N + L - M) n' R p f gs c wr hn' (by rw [hMM]; exact hK.out) (by have := hb.out.size; have := HB.out; omega) (by omega)
          rw [hMM] at hsh
          have HSH := Lib.hid hsh
          clear hsh
          go_wp2_with fail
          ((with_reducible refine HSH.out.mono ?_); rintro e w2 ⟨rfl, ⟨v', kd, hsk, hkc⟩, hbb⟩)
          have H2 := Lib.hid (And.intro hsk (And.intro hkc hbb))
          clear hsk hkc hbb HSH
          go_wp2_with fail
          go_roundg (M - 1)
          case measure => omega
          case rel =>
            obtain ⟨hsk, hkc, hbb⟩ := H2.out
            obtain ⟨m, hm, hY⟩ := hZ.out
            obtain ⟨m, rfl⟩ : ∃ m', m = m' + 1 := ⟨m - 1, by omega⟩
            refine ⟨R ++ [⟨p.t, v', p.kids ++ [kd]⟩], gs, c, n' + 1, rfl, Lib.hid ⟨by rw [List.length_append, hn']; rfl, by simp⟩, Lib.hid (hsk.mono (by omega)), Lib.hid ⟨m, by omega, ?_⟩, Lib.hid (hb.out.trans hbb), by omega, by omega⟩
            rw [hY, closeV, if_pos (by rw [skC_length]; simp), shutF_sk, skC_top, ← hkc, List.map_append]
            rfl
        · have g1 : decide ((1 : Int) < (M : Int)) = false := by simp; omega
          have g1n : decide (1 < M) = false := by simp; omega
          obtain ⟨R0, f, rfl⟩ := last_of hM.out.2
          have hR0 : R0 = [] := List.eq_nil_of_length_eq_zero (by have := hM.out.1; simp at this; omega)
          subst hR0
          obtain rfl : M = 1 := by have := hM.out.1; simp at this; omega
          go_wp2_with fail
          go_meet
          case rel =>
            obtain ⟨m, hm, hY⟩ := hZ.out
            refine ⟨f, gs, c, rfl, Lib.hid ⟨_, by omega, hK.out⟩, Lib.hid ?_, hb⟩
            rw [hY]
            cases m with
            | zero => rfl
            | succ m => rw [closeV, if_neg (by rw [skC_length]; simp)]; rfl
    case rest =>
      obtain ⟨f, gs, c, rfl, hK, hY, hb⟩ := hcut
      obtain ⟨K, hKl, hk⟩ := hK.out
      have hrow := hk.row
      have hcell : wc.cell? ⟨gs, 6, none⟩ = some f.v := owns_cell hrow rfl
      have hkf := hk.kid f (List.mem_singleton.2 rfl)
      have hlf := hk.len f (List.mem_singleton.2 rfl)
      obtain ⟨h0, hsf⟩ := hk.safe
      have hne := fun e => owns_apart hkf hrow (by decide) e (g := gs) rfl
      obtain ⟨ft, fv, fkids⟩ := f
      simp only at hkf hlf hcell hsf hne
      obtain ⟨poa, pc, pg, rfl, hsl, hpos⟩ := sl_of_own hkf
      have HV := Lib.hid (show isVs (· < B) h0 Y (.slice poa fkids.length pc) wc from ⟨poa, pc, pg, 0, fkids, rfl, hY.out.symm, VsIn.made (by omega) hsl (fun h e => by have := hpos h; omega) ((hsf.anti fun b hb _ => Or.inl hb).mono fun _ hw x hx => hw _ (List.mem_singleton.2 rfl) x hx)⟩)
      clear hrow hkf hsf hk hK hsl hpos hne
      generalize fkids.length = k at *
      go_wp2_with fail
      go_ret
      exact ⟨⟨_, rfl, h0, HV.out⟩, hb.out⟩

end Go.Proofs.YtplnhjmomomphaaDoor

namespace Go.Proofs.YtplnhjmomomphaaDoor
set_option linter.unusedVariables false
set_option linter.unusedSimpArgs false
open Go.RowKit

set_option maxRecDepth 20000 in
set_option maxHeartbeats 4000000 in
theorem lower63_any (m : List UInt8) (w : World) (hm : m.length ≤ 9223372036854775807) :
    Calls Tryd.prog 59 #[.string ⟨m.toArray⟩] w fun e w' => e = .returned (.string ⟨(lowS m).toArray⟩) ∧ Below w.heap.size w w' := by
  obtain ⟨cap, w1, hrun, hb1, hbl⟩ := bytes_made m w
  obtain ⟨N, hN⟩ : ∃ N, m.length = N := ⟨_, rfl⟩
  rw [hN] at hrun hm
  have HN := Lib.hid hN
  obtain ⟨g, hg⟩ : ∃ g, w.heap.size = g := ⟨_, rfl⟩
  rw [hg] at hrun hb1 hbl ⊢
  have HB0 := Lib.hid hb1
  have HBL := Lib.hid hbl
  clear hN hb1 hbl hg
  go_enter Tryd.func59, Tryd.ntmps59
  go_wp2_with fail
  go_loopg [10] N (fun q s10 wr => ∃ (i : Nat), s10 = .int .i64 i ∧ Hid (Below g w wr) ∧ Hid (Bl wr g (lowG m i)) ∧ i ≤ N ∧ N - i ≤ q)
  case atStart => exact ⟨0, rfl, HB0, HBL, Nat.zero_le _, by omega⟩
  case round =>
    clear HB0 HBL hrun
    obtain ⟨i, rfl, hb, hbl, hiN, hq⟩ := hrel
    by_cases hi : i < N
    · have gi : decide ((i : Int) < (N : Int)) = true := by simpa using hi
      have gin : decide (i < N) = true := by simpa using hi
      have him : i < m.length := by rw [HN.out]; exact hi
      have hcell := hbl.out.cell i _ (lowG_at him)
      have hfree := hbl.out.free i (by rw [lowG_len]; exact him)
      have hlt := hbl.out.lt
      have hst := lowG_step him
      obtain ⟨c, hc⟩ : ∃ c, m[i] = c := ⟨_, rfl⟩
      rw [hc] at hcell hst
      have hc256 := UInt8.toNat_lt c
      have hset := hbl.out.set (i := i) (by rw [lowG_len]; exact him) (lowB c)
      rw [← hst] at hset
      by_cases hup : 65 ≤ c.toNat ∧ c.toNat ≤ 90
      · rw [lowB_up hup] at hset
        obtain ⟨n, hn⟩ : ∃ n, c.toNat = n := ⟨_, rfl⟩
        rw [hn] at hcell hset hup hc256
        have g1 : decide ((65 : Int) ≤ (n : Int)) = true := by simp; omega
        have g2 : decide ((n : Int) ≤ (90 : Int)) = true := by simp; omega
        have HS := Lib.hid hset
        clear hset hst hc hn hbl
        go_wp2_with fail
        go_roundg (N - (i + 1))
        case measure => omega
        case rel => exact ⟨i + 1, by go_num, Lib.hid (hb.out.setCell (by simp) _), Lib.hid (by have := HS.out; simpa using this), hi, Nat.le_refl _⟩
      · have hsame : lowG m (i + 1) = lowG m i := by
          rw [hst, lowB_same hup]
          refine List.ext_getElem? fun j => ?_
          by_cases hj : i = j
          · subst hj
            rw [List.getElem?_set_self (by rw [lowG_len]; exact him), lowG_at him, hc]
          · rw [List.getElem?_set_ne hj]
        obtain ⟨n, hn⟩ : ∃ n, c.toNat = n := ⟨_, rfl⟩
        rw [hn] at hcell hup hc256
        have ways : decide ((65 : Int) ≤ (n : Int)) = false ∨ decide ((65 : Int) ≤ (n : Int)) = true ∧ decide ((n : Int) ≤ (90 : Int)) = false := by
          by_cases h : 65 ≤ n
          · exact Or.inr ⟨by simp; omega, by simp; omega⟩
          · exact Or.inl (by simp; omega)
        have HBL2 := Lib.hid (show Bl wr g (lowG m (i + 1)) by rw [hsame]; exact hbl.out)
        clear hset hst hc hn hbl hsame
        rcases ways with g1 | ⟨g1, g2⟩
        all_goals
          go_wp2_with fail
          go_roundg (N - (i + 1))
          case measure => omega
          case rel => exact ⟨i + 1, by go_num, hb, HBL2, hi, Nat.le_refl _⟩
    · obtain rfl : i = N := by omega
      have gi : decide ((i : Int) < (i : Int)) = false := by simp
      have gin : decide (i < i) = false := by simp
      have htx := hbl.out.text cap
      rw [lowG_len, HN.out] at htx
      have hall : lowG m i = lowS m := by rw [← HN.out, lowG_all]
      rw [hall] at htx
      clear hbl hall
      go_wp2_with fail
      go_ret
      exact ⟨rfl, hb.out⟩

set_option maxRecDepth 20000 in
set_option maxHeartbeats 4000000 in
theorem csmall_any (m : List UInt8) (w : World) (hm : m.length ≤ 9223372036854775807) :
    Calls Tryd.prog 37 #[.string ⟨m.toArray⟩] w fun e w' => e = .returned (.string ⟨(lowS m).toArray⟩) ∧ Below w.heap.size w w' := by
  obtain ⟨cap, w1, hrun, hb1, hbl⟩ := bytes_made m w
  obtain ⟨N, hN⟩ : ∃ N, m.length = N := ⟨_, rfl⟩
  rw [hN] at hrun hm
  have HN := Lib.hid hN
  obtain ⟨g, hg⟩ : ∃ g, w.heap.size = g := ⟨_, rfl⟩
  rw [hg] at hrun hb1 hbl ⊢
  have HB0 := Lib.hid hb1
  have HBL := Lib.hid hbl
  clear hN hb1 hbl hg
  go_enter Tryd.func37, Tryd.ntmps37
  go_wp2_with fail
  go_loopg [10] N (fun q s10 wr => ∃ (i : Nat), s10 = .int .i64 i ∧ Hid (Below g w wr) ∧ Hid (Bl wr g (lowG m i)) ∧ i ≤ N ∧ N - i ≤ q)
  case atStart => exact ⟨0, rfl, HB0, HBL, Nat.zero_le _, by omega⟩
  case round =>
    clear HB0 HBL hrun
    obtain ⟨i, rfl, hb, hbl, hiN, hq⟩ := hrel
    by_cases hi : i < N
    · have gi : decide ((i : Int) < (N : Int)) = true := by simpa using hi
      have gin : decide (i < N) = true := by simpa using hi
      have him : i < m.length := by rw [HN.out]; exact hi
      have hcell := hbl.out.cell i _ (lowG_at him)
      have hfree := hbl.out.free i (by rw [lowG_len]; exact him)
      have hlt := hbl.out.lt
      have hst := lowG_step him
      obtain ⟨c, hc⟩ : ∃ c, m[i] = c := ⟨_, rfl⟩
      rw [hc] at hcell hst
      have hc256 := UInt8.toNat_lt c
      have hset := hbl.out.set (i := i) (by rw [lowG_len]; exact him) (lowB c)
      rw [← hst] at hset
      by_cases hup : 65 ≤ c.toNat ∧ c.toNat ≤ 90
      · rw [lowB_up hup] at hset
        obtain ⟨n, hn⟩ : ∃ n, c.toNat = n := ⟨_, rfl⟩
        rw [hn] at hcell hset hup hc256
        have g1 : decide ((65 : Int) ≤ (n : Int)) = true := by simp; omega
        have e97 : (n : Int) + 97 - 65 = (n : Int) + 32 := by omega
        have g2 : decide ((n : Int) ≤ (90 : Int)) = true := by simp; omega
        have HS := Lib.hid hset
        clear hset hst hc hn hbl
        go_wp2_with fail
        go_roundg (N - (i + 1))
        case measure => omega
        case rel => exact ⟨i + 1, by go_num, Lib.hid (hb.out.setCell (by simp) _), Lib.hid (by have := HS.out; simpa using this), hi, Nat.le_refl _⟩
      · have hsame : lowG m (i + 1) = lowG m i := by
          rw [hst, lowB_same hup]
          refine List.ext_getElem? fun j => ?_
          by_cases hj : i = j
          · subst hj
            rw [List.getElem?_set_self (by rw [lowG_len]; exact him), lowG_at him, hc]
          · rw [List.getElem?_set_ne hj]
        obtain ⟨n, hn⟩ : ∃ n, c.toNat = n := ⟨_, rfl⟩
        rw [hn] at hcell hup hc256
        have ways : decide ((65 : Int) ≤ (n : Int)) = false ∨ decide ((65 : Int) ≤ (n : Int)) = true ∧ decide ((n : Int) ≤ (90 : Int)) = false := by
          by_cases h : 65 ≤ n
          · exact Or.inr ⟨by simp; omega, by simp; omega⟩
          · exact Or.inl (by simp; omega)
        have HBL2 := Lib.hid (show Bl wr g (lowG m (i + 1)) by rw [hsame]; exact hbl.out)
        clear hset hst hc hn hbl hsame
        rcases ways with g1 | ⟨g1, g2⟩
        all_goals
          go_wp2_with fail
          go_roundg (N - (i + 1))
          case measure => omega
          case rel => exact ⟨i + 1, by go_num, hb, HBL2, hi, Nat.le_refl _⟩
    · obtain rfl : i = N := by omega
      have gi : decide ((i : Int) < (i : Int)) = false := by simp
      have gin : decide (i < i) = false := by simp
      have htx := hbl.out.text cap
      rw [lowG_len, HN.out] at htx
      have hall : lowG m i = lowS m := by rw [← HN.out, lowG_all]
      rw [hall] at htx
      clear hbl hall
      go_wp2_with fail
      go_ret
      exact ⟨rfl, hb.out⟩

set_option maxHeartbeats 1000000 in
theorem like63_any (a b : List UInt8) (w : World) (ha : a.length ≤ 9223372036854775807) (hb : b.length ≤ 9223372036854775807) :
    Calls Tryd.prog 38 #[.string ⟨a.toArray⟩, .string ⟨b.toArray⟩] w fun e w' => e = .returned (.bool (likeS a b)) ∧ Below w.heap.size w w' := by
  have h1 := fun w => lower63_any a w ha
  have h2 := fun w => lower63_any b w hb
  unfold likeS
  generalize lowS a = x at *
  generalize lowS b = y at *
  have H1 := Lib.hid h1
  have H2 := Lib.hid h2
  clear h1 h2 ha hb
  go_enter Tryd.func38, Tryd.ntmps38
  go_wp2_with fail
  ((with_reducible refine (H1.out _).mono ?_); rintro e w' ⟨rfl, hbw⟩)
  obtain ⟨m, rfl⟩ := grow_mk hbw
  clear hbw
  go_wp2_with fail
  ((with_reducible refine (H2.out _).mono ?_); rintro e w' ⟨rfl, hbw⟩)
  obtain ⟨m2, rfl⟩ := grow_mk hbw
  clear hbw
  go_wp2_with fail
  go_ret
  exact ⟨ret_bool rfl, grow_below _⟩


theorem unitF_le (s : List UInt8) : unitF s ≤ 7 := by
  unfold unitF unitsS
  simp only [unitG]
  repeat (first | split | omega)
/-- the units' names, as they lie behind a slice -/
def unitsV : Array Value := #[.string ⟨#[112, 120]⟩, .string ⟨#[101, 109]⟩, .string ⟨#[114, 101, 109]⟩, .string ⟨#[118, 119]⟩, .string ⟨#[118, 104]⟩, .string ⟨#[99, 113, 119]⟩, .string ⟨#[99, 113, 104]⟩]
theorem unitsV_at {i : Nat} (h : i < 7) : unitsV.toList[i]? = some (.string ⟨(unitsS[i]'(by simpa [unitsS] using h)).toArray⟩) := by
  match i, h with
  | 0, _ => rfl
  | 1, _ => rfl
  | 2, _ => rfl
  | 3, _ => rfl
  | 4, _ => rfl
  | 5, _ => rfl
  | 6, _ => rfl

set_option maxHeartbeats 1000000 in
theorem unitNames_any (w : World) : Calls Tryd.prog 36 #[] w fun e w' => e = .returned (.slice (some ⟨w.heap.size, 0, none⟩) 7 7) ∧ w' = w.alloc (.cells unitsV 9) := by
  go_enter Tryd.func36, Tryd.ntmps36
  go_wp2_with fail
  go_ret
  exact ⟨rfl, rfl⟩

set_option maxRecDepth 20000 in
set_option maxHeartbeats 4000000 in
theorem cunit_any (s : List UInt8) (w : World) (hs : s.length ≤ 9223372036854775807) :
    Calls Tryd.prog 17 #[.string ⟨s.toArray⟩] w fun e w' => e = .returned (.int .i64 (unitF s)) ∧ Below w.heap.size w w' := by
  have HSM := Lib.hid (fun w => csmall_any s w hs)
  obtain ⟨X, hX⟩ : ∃ X, lowS s = X := ⟨_, rfl⟩
  have hU : unitF s = unitG X (unitsS.drop 0) 1 := by unfold unitF; rw [hX]; rfl
  obtain ⟨U, hU2⟩ : ∃ U, unitF s = U := ⟨_, rfl⟩
  rw [hU2] at hU ⊢
  rw [hX] at HSM
  have HU := Lib.hid hU
  clear hU hU2 hX hs
  go_enter Tryd.func17, Tryd.ntmps17
  go_wp2_with fail
  ((with_reducible refine (unitNames_any w).mono ?_); rintro e w' ⟨rfl, rfl⟩)
  have hbx : Blk (w.alloc (.cells unitsV 9)) w.heap.size 9 unitsV := Blk.new _ _ _
  have hb0 := Lib.hid (below_box w (.cells unitsV 9))
  have HBX := Lib.hid hbx
  clear hbx
  obtain ⟨g, hg⟩ : ∃ g, w.heap.size = g := ⟨_, rfl⟩
  have HG := Lib.hid hg
  rw [hg] at HBX hb0
  simp only [hg]
  clear hg
  generalize w.alloc _ = w0 at *
  go_wp2_with fail
  go_loopg [7] 7 (fun q s7 wr => ∃ (i : Nat), s7 = .int .i64 i ∧ i ≤ 7 ∧ Hid (Below w0.heap.size w0 wr) ∧ Hid (U = unitG X (unitsS.drop i) (i + 1)) ∧ 7 - i ≤ q)
  case atStart => exact ⟨0, rfl, by omega, Lib.hid (Below.refl _ _), HU, by omega⟩
  case round =>
    obtain ⟨i, rfl, hi7, hb, hu, hq⟩ := hrel
    by_cases hi : i < 7
    · have gi : decide ((i : Int) < (7 : Int)) = true := by simp; omega
      have gin : decide (i < 7) = true := by simpa using hi
      have hiu : i < unitsS.length := hi
      have hbr := HBX.out.below hb.out HBX.out.lt
      have hc : wr.cell? ⟨g, i, none⟩ = some (.string ⟨(unitsS[i]).toArray⟩) := by rw [hbr.cell i]; simpa using unitsV_at hi
      have hlt := hbr.lt
      have hu2 := hu.out
      rw [List.drop_eq_getElem_cons hiu, unitG] at hu2
      obtain ⟨n, hn⟩ : ∃ n, unitsS[i] = n := ⟨_, rfl⟩
      rw [hn] at hc hu2
      have HU2 := Lib.hid hu2
      clear hu hu2 hn hbr hiu
      go_wp2_with fail
      go_wp2_with fail
      ((with_reducible refine (HSM.out _).mono ?_); rintro e w' ⟨rfl, hbw⟩)
      obtain ⟨m, rfl⟩ := grow_mk hbw
      clear hbw
      by_cases he : X = n
      · have g1 : (n == X) = true := by rw [he]; simp
        have hUe := HU2.out
        rw [if_pos he] at hUe
        have HUE := Lib.hid hUe
        clear HU2 he hUe
        go_wp2_with fail
        go_ret
        exact ⟨by rw [HUE.out]; go_num, by rw [HG.out]; exact hb0.out.trans (Below.mono (below_grow hb.out m) (by have := hb0.out.size; have := HG.out; omega))⟩
      · have g1 : (n == X) = false := by simpa using Ne.symm he
        have hUe := HU2.out
        rw [if_neg he] at hUe
        have HUE := Lib.hid hUe
        clear HU2 he hUe
        go_wp2_with fail
        go_roundg (7 - (i + 1))
        case measure => omega
        case rel => exact ⟨i + 1, by go_num, hi, Lib.hid (below_grow hb.out m), HUE, Nat.le_refl _⟩
    · obtain rfl : i = 7 := by omega
      have gi : decide ((7 : Int) < (7 : Int)) = false := by simp
      go_wp2_with fail
      go_ret
      exact ⟨by rw [hu.out]; rfl, by rw [HG.out]; exact hb0.out.trans (Below.mono hb.out (by have := hb0.out.size; have := HG.out; omega))⟩

theorem unit_index0 (w : World) : (Instr.index 67 (.agg #[.string ⟨#[]⟩, .string ⟨#[112, 120]⟩, .string ⟨#[101, 109]⟩, .string ⟨#[114, 101, 109]⟩, .string ⟨#[118, 119]⟩, .string ⟨#[118, 104]⟩, .string ⟨#[99, 113, 119]⟩, .string ⟨#[99, 113, 104]⟩]) (.int .i64 0)).run Tryd.prog w = .ok (.string ⟨#[]⟩) w := by
  simp [Instr.index, run_underlying Tryd.underlying67, asIntOf, part, go_sem]
theorem unit_index1 (w : World) : (Instr.index 67 (.agg #[.string ⟨#[]⟩, .string ⟨#[112, 120]⟩, .string ⟨#[101, 109]⟩, .string ⟨#[114, 101, 109]⟩, .string ⟨#[118, 119]⟩, .string ⟨#[118, 104]⟩, .string ⟨#[99, 113, 119]⟩, .string ⟨#[99, 113, 104]⟩]) (.int .i64 1)).run Tryd.prog w = .ok (.string ⟨#[112, 120]⟩) w := by
  simp [Instr.index, run_underlying Tryd.underlying67, asIntOf, part, go_sem]
theorem unit_index2 (w : World) : (Instr.index 67 (.agg #[.string ⟨#[]⟩, .string ⟨#[112, 120]⟩, .string ⟨#[101, 109]⟩, .string ⟨#[114, 101, 109]⟩, .string ⟨#[118, 119]⟩, .string ⟨#[118, 104]⟩, .string ⟨#[99, 113, 119]⟩, .string ⟨#[99, 113, 104]⟩]) (.int .i64 2)).run Tryd.prog w = .ok (.string ⟨#[101, 109]⟩) w := by
  simp [Instr.index, run_underlying Tryd.underlying67, asIntOf, part, go_sem]
theorem unit_index3 (w : World) : (Instr.index 67 (.agg #[.string ⟨#[]⟩, .string ⟨#[112, 120]⟩, .string ⟨#[101, 109]⟩, .string ⟨#[114, 101, 109]⟩, .string ⟨#[118, 119]⟩, .string ⟨#[118, 104]⟩, .string ⟨#[99, 113, 119]⟩, .string ⟨#[99, 113, 104]⟩]) (.int .i64 3)).run Tryd.prog w = .ok (.string ⟨#[114, 101, 109]⟩) w := by
  simp [Instr.index, run_underlying Tryd.underlying67, asIntOf, part, go_sem]
theorem unit_index4 (w : World) : (Instr.index 67 (.agg #[.string ⟨#[]⟩, .string ⟨#[112, 120]⟩, .string ⟨#[101, 109]⟩, .string ⟨#[114, 101, 109]⟩, .string ⟨#[118, 119]⟩, .string ⟨#[118, 104]⟩, .string ⟨#[99, 113, 119]⟩, .string ⟨#[99, 113, 104]⟩]) (.int .i64 4)).run Tryd.prog w = .ok (.string ⟨#[118, 119]⟩) w := by
  simp [Instr.index, run_underlying Tryd.underlying67, asIntOf, part, go_sem]
theorem unit_index5 (w : World) : (Instr.index 67 (.agg #[.string ⟨#[]⟩, .string ⟨#[112, 120]⟩, .string ⟨#[101, 109]⟩, .string ⟨#[114, 101, 109]⟩, .string ⟨#[118, 119]⟩, .string ⟨#[118, 104]⟩, .string ⟨#[99, 113, 119]⟩, .string ⟨#[99, 113, 104]⟩]) (.int .i64 5)).run Tryd.prog w = .ok (.string ⟨#[118, 104]⟩) w := by
  simp [Instr.index, run_underlying Tryd.underlying67, asIntOf, part, go_sem]
theorem unit_index6 (w : World) : (Instr.index 67 (.agg #[.string ⟨#[]⟩, .string ⟨#[112, 120]⟩, .string ⟨#[101, 109]⟩, .string ⟨#[114, 101, 109]⟩, .string ⟨#[118, 119]⟩, .string ⟨#[118, 104]⟩, .string ⟨#[99, 113, 119]⟩, .string ⟨#[99, 113, 104]⟩]) (.int .i64 6)).run Tryd.prog w = .ok (.string ⟨#[99, 113, 119]⟩) w := by
  simp [Instr.index, run_underlying Tryd.underlying67, asIntOf, part, go_sem]
theorem unit_index7 (w : World) : (Instr.index 67 (.agg #[.string ⟨#[]⟩, .string ⟨#[112, 120]⟩, .string ⟨#[101, 109]⟩, .string ⟨#[114, 101, 109]⟩, .string ⟨#[118, 119]⟩, .string ⟨#[118, 104]⟩, .string ⟨#[99, 113, 119]⟩, .string ⟨#[99, 113, 104]⟩]) (.int .i64 7)).run Tryd.prog w = .ok (.string ⟨#[99, 113, 104]⟩) w := by
  simp [Instr.index, run_underlying Tryd.underlying67, asIntOf, part, go_sem]

set_option maxRecDepth 20000 in
set_option maxHeartbeats 8000000 in
theorem runit_any (s : List UInt8) (w : World) (hs : s.length ≤ 9223372036854775807) :
    Calls Tryd.prog 18 #[.string ⟨s.toArray⟩] w fun e w' => e = .returned (.int .i64 (unitF s)) ∧ Below w.heap.size w w' := by
  have HL := Lib.hid (fun (n : List UInt8) (hn : n.length ≤ 9223372036854775807) w => like63_any s n w hs hn)
  obtain ⟨X, hX⟩ : ∃ X, lowS s = X := ⟨_, rfl⟩
  have hU : unitF s = unitG X (unitsS.drop 0) 1 := by unfold unitF; rw [hX]; rfl
  obtain ⟨U, hU2⟩ : ∃ U, unitF s = U := ⟨_, rfl⟩
  rw [hU2] at hU ⊢
  have HU := Lib.hid hU
  have HX := Lib.hid hX
  clear hU hU2 hX hs
  go_enter Tryd.func18, Tryd.ntmps18
  go_wp2_with fail
  go_loopg [6] 8 (fun q s7 wr => ∃ (i : Nat) (z : Int), s7 = .int .i64 z ∧ z = (i : Int) ∧ i ≤ 8 ∧ Hid (Below w.heap.size w wr) ∧ Hid (U = unitG X (unitsS.drop (i - 1)) (i - 1 + 1)) ∧ 8 - i ≤ q)
  case atStart => exact ⟨0, 0, rfl, rfl, by omega, Lib.hid (Below.refl _ _), HU, by omega⟩
  case round =>
    obtain ⟨i, z, rfl, hz, hi7, hb, hu, hq⟩ := hrel
    have ways : i = 0 ∨ i = 1 ∨ i = 2 ∨ i = 3 ∨ i = 4 ∨ i = 5 ∨ i = 6 ∨ i = 7 ∨ i = 8 := by omega
    rcases ways with rfl | rfl | rfl | rfl | rfl | rfl | rfl | rfl | rfl
    · obtain rfl : z = 0 := by omega
      clear hz
      have hix := fun w => unit_index0 w
      go_wp2_with fail
      go_roundg 7
      case measure => omega
      case rel => exact ⟨1, 1, rfl, rfl, by omega, hb, hu, Nat.le_refl _⟩
    · obtain rfl : z = 1 := by omega
      clear hz
      have hlk := HL.out [112, 120] (by decide)
      have hix := fun w => unit_index1 w
      have hu2 := hu.out
      simp only [unitsS, Nat.reduceSub, List.drop_succ_cons, List.drop_zero, unitG, Nat.reduceAdd] at hu2
      obtain ⟨B, hB⟩ : ∃ B, likeS s [112, 120] = B := ⟨_, rfl⟩
      rw [hB] at hlk
      have hB2 : B = decide (X = [112, 120]) := by
        rw [← hB]
        show (lowS s == [112, 120]) = _
        rw [HX.out, Bool.eq_iff_iff]; simp
      have HLK := Lib.hid hlk
      have HB := Lib.hid hB2
      have HU2 := Lib.hid hu2
      clear hlk hB hB2 hu hu2
      go_wp2_with fail
      go_wp2_with fail
      ((with_reducible refine (HLK.out _).mono ?_); rintro e w' ⟨rfl, hbw⟩)
      obtain ⟨m, rfl⟩ := grow_mk hbw
      clear hbw
      cases B with
      | true =>
        have he : X = [112, 120] := by have := HB.out; simpa using this.symm
        go_wp2_with fail
        go_ret
        exact ⟨by rw [HU2.out, if_pos he]; rfl, below_grow hb.out m⟩
      | false =>
        have he : ¬ X = [112, 120] := by have := HB.out; simpa using this.symm
        go_wp2_with fail
        go_roundg 6
        case measure => omega
        case rel => exact ⟨2, 2, rfl, rfl, by omega, Lib.hid (below_grow hb.out m), Lib.hid (by rw [HU2.out, if_neg he]; simp only [unitsS, Nat.reduceSub, List.drop_succ_cons, List.drop_zero, unitG, Nat.reduceAdd]), Nat.le_refl _⟩
    · obtain rfl : z = 2 := by omega
      clear hz
      have hlk := HL.out [101, 109] (by decide)
      have hix := fun w => unit_index2 w
      have hu2 := hu.out
      simp only [unitsS, Nat.reduceSub, List.drop_succ_cons, List.drop_zero, unitG, Nat.reduceAdd] at hu2
      obtain ⟨B, hB⟩ : ∃ B, likeS s [101, 109] = B := ⟨_, rfl⟩
      rw [hB] at hlk
      have hB2 : B = decide (X = [101, 109]) := by
        rw [← hB]
        show (lowS s == [101, 109]) = _
        rw [HX.out, Bool.eq_iff_iff]; simp
      have HLK := Lib.hid hlk
      have HB := Lib.hid hB2
      have HU2 := Lib.hid hu2
      clear hlk hB hB2 hu hu2
      go_wp2_with fail
      go_wp2_with fail
      ((with_reducible refine (HLK.out _).mono ?_); rintro e w' ⟨rfl, hbw⟩)
      obtain ⟨m, rfl⟩ := grow_mk hbw
      clear hbw
      cases B with
      | true =>
        have he : X = [101, 109] := by have := HB.out; simpa using this.symm
        go_wp2_with fail
        go_ret
        exact ⟨by rw [HU2.out, if_pos he]; rfl, below_grow hb.out m⟩
      | false =>
        have he : ¬ X = [101, 109] := by have := HB.out; simpa using this.symm
        go_wp2_with fail
        go_roundg 5
        case measure => omega
        case rel => exact ⟨3, 3, rfl, rfl, by omega, Lib.hid (below_grow hb.out m), Lib.hid (by rw [HU2.out, if_neg he]; simp only [unitsS, Nat.reduceSub, List.drop_succ_cons, List.drop_zero, unitG, Nat.reduceAdd]), Nat.le_refl _⟩
    · obtain rfl : z = 3 := by omega
      clear hz
      have hlk := HL.out [114, 101, 109] (by decide)
      have hix := fun w => unit_index3 w
      have hu2 := hu.out
      simp only [unitsS, Nat.reduceSub, List.drop_succ_cons, List.drop_zero, unitG, Nat.reduceAdd] at hu2
      obtain ⟨B, hB⟩ : ∃ B, likeS s [114, 101, 109] = B := ⟨_, rfl⟩
      rw [hB] at hlk
      have hB2 : B = decide (X = [114, 101, 109]) := by
        rw [← hB]
        show (lowS s == [114, 101, 109]) = _
        rw [HX.out, Bool.eq_iff_iff]; simp
      have HLK := Lib.hid hlk
      have HB := Lib.hid hB2
      have HU2 := Lib.hid hu2
      clear hlk hB hB2 hu hu2
      go_wp2_with fail
      go_wp2_with fail
      ((with_reducible refine (HLK.out _).mono ?_); rintro e w' ⟨rfl, hbw⟩)
      obtain ⟨m, rfl⟩ := grow_mk hbw
      clear hbw
      cases B with
      | true =>
        have he : X = [114, 101, 109] := by have := HB.out; simpa using this.symm
        go_wp2_with fail
        go_ret
        exact ⟨by rw [HU2.out, if_pos he]; rfl, below_grow hb.out m⟩
      | false =>
        have he : ¬ X = [114, 101, 109] := by have := HB.out; simpa using this.symm
        go_wp2_with fail
        go_roundg 4
        case measure => omega
        case rel => exact ⟨4, 4, rfl, rfl, by omega, Lib.hid (below_grow hb.out m), Lib.hid (by rw [HU2.out, if_neg he]; simp only [unitsS, Nat.reduceSub, List.drop_succ_cons, List.drop_zero, unitG, Nat.reduceAdd]), Nat.le_refl _⟩
    · obtain rfl : z = 4 := by omega
      clear hz
      have hlk := HL.out [118, 119] (by decide)
      have hix := fun w => unit_index4 w
      have hu2 := hu.out
      simp only [unitsS, Nat.reduceSub, List.drop_succ_cons, List.drop_zero, unitG, Nat.reduceAdd] at hu2
      obtain ⟨B, hB⟩ : ∃ B, likeS s [118, 119] = B := ⟨_, rfl⟩
      rw [hB] at hlk
      have hB2 : B = decide (X = [118, 119]) := by
        rw [← hB]
        show (lowS s == [118, 119]) = _
        rw [HX.out, Bool.eq_iff_iff]; simp
      have HLK := Lib.hid hlk
      have HB := Lib.hid hB2
      have HU2 := Lib.hid hu2
      clear hlk hB hB2 hu hu2
      go_wp2_with fail
      go_wp2_with fail
      ((with_reducible refine (HLK.out _).mono ?_); rintro e w' ⟨rfl, hbw⟩)
      obtain ⟨m, rfl⟩ := grow_mk hbw
      clear hbw
      cases B with
      | true =>
        have he : X = [118, 119] := by have := HB.out; simpa using this.symm
        go_wp2_with fail
        go_ret
        exact ⟨by rw [HU2.out, if_pos he]; rfl, below_grow hb.out m⟩
      | false =>
        have he : ¬ X = [118, 119] := by have := HB.out; simpa using this.symm
        go_wp2_with fail
        go_roundg 3
        case measure => omega
        case rel => exact ⟨5, 5, rfl, rfl, by omega, Lib.hid (below_grow hb.out m), Lib.hid (by rw [HU2.out, if_neg he]; simp only [unitsS, Nat.reduceSub, List.drop_succ_cons, List.drop_zero, unitG, Nat.reduceAdd]), Nat.le_refl _⟩
    · obtain rfl : z = 5 := by omega
      clear hz
      have hlk := HL.out [118, 104] (by decide)
      have hix := fun w => unit_index5 w
      have hu2 := hu.out
      simp only [unitsS, Nat.reduceSub, List.drop_succ_cons, List.drop_zero, unitG, Nat.reduceAdd] at hu2
      obtain ⟨B, hB⟩ : ∃ B, likeS s [118, 104] = B := ⟨_, rfl⟩
      rw [hB] at hlk
      have hB2 : B = decide (X = [118, 104]) := by
        rw [← hB]
        show (lowS s == [118, 104]) = _
        rw [HX.out, Bool.eq_iff_iff]; simp
      have HLK := Lib.hid hlk
      have HB := Lib.hid hB2
      have HU2 := Lib.hid hu2
      clear hlk hB hB2 hu hu2
      go_wp2_with fail
      go_wp2_with fail
      ((with_reducible refine (HLK.out _).mono ?_); rintro e w' ⟨rfl, hbw⟩)
      obtain ⟨m, rfl⟩ := grow_mk hbw
      clear hbw
      cases B with
      | true =>
        have he : X = [118, 104] := by have := HB.out; simpa using this.symm
        go_wp2_with fail
        go_ret
        exact ⟨by rw [HU2.out, if_pos he]; rfl, below_grow hb.out m⟩
      | false =>
        have he : ¬ X = [118, 104] := by have := HB.out; simpa using this.symm
        go_wp2_with fail
        go_roundg 2
        case measure => omega
        case rel => exact ⟨6, 6, rfl, rfl, by omega, Lib.hid (below_grow hb.out m), Lib.hid (by rw [HU2.out, if_neg he]; simp only [unitsS, Nat.reduceSub, List.drop_succ_cons, List.drop_zero, unitG, Nat.reduceAdd]), Nat.le_refl _⟩
    · obtain rfl : z = 6 := by omega
      clear hz
      have hlk := HL.out [99, 113, 119] (by decide)
      have hix := fun w => unit_index6 w
      have hu2 := hu.out
      simp only [unitsS, Nat.reduceSub, List.drop_succ_cons, List.drop_zero, unitG, Nat.reduceAdd] at hu2
      obtain ⟨B, hB⟩ : ∃ B, likeS s [99, 113, 119] = B := ⟨_, rfl⟩
      rw [hB] at hlk
      have hB2 : B = decide (X = [99, 113, 119]) := by
        rw [← hB]
        show (lowS s == [99, 113, 119]) = _
        rw [HX.out, Bool.eq_iff_iff]; simp
      have HLK := Lib.hid hlk
      have HB := Lib.hid hB2
      have HU2 := Lib.hid hu2
      clear hlk hB hB2 hu hu2
      go_wp2_with fail
      go_wp2_with fail
      ((with_reducible refine (HLK.out _).mono ?_); rintro e w' ⟨rfl, hbw⟩)
      obtain ⟨m, rfl⟩ := grow_mk hbw
      clear hbw
      cases B with
      | true =>
        have he : X = [99, 113, 119] := by have := HB.out; simpa using this.symm
        go_wp2_with fail
        go_ret
        exact ⟨by rw [HU2.out, if_pos he]; rfl, below_grow hb.out m⟩
      | false =>
        have he : ¬ X = [99, 113, 119] := by have := HB.out; simpa using this.symm
        go_wp2_with fail
        go_roundg 1
        case measure => omega
        case rel => exact ⟨7, 7, rfl, rfl, by omega, Lib.hid (below_grow hb.out m), Lib.hid (by rw [HU2.out, if_neg he]; simp only [unitsS, Nat.reduceSub, List.drop_succ_cons, List.drop_zero, unitG, Nat.reduceAdd]), Nat.le_refl _⟩
    · obtain rfl : z = 7 := by omega
      clear hz
      have hlk := HL.out [99, 113, 104] (by decide)
      have hix := fun w => unit_index7 w
      have hu2 := hu.out
      simp only [unitsS, Nat.reduceSub, List.drop_succ_cons, List.drop_zero, unitG, Nat.reduceAdd] at hu2
      obtain ⟨B, hB⟩ : ∃ B, likeS s [99, 113, 104] = B := ⟨_, rfl⟩
      rw [hB] at hlk
      have hB2 : B = decide (X = [99, 113, 104]) := by
        rw [← hB]
        show (lowS s == [99, 113, 104]) = _
        rw [HX.out, Bool.eq_iff_iff]; simp
      have HLK := Lib.hid hlk
      have HB := Lib.hid hB2
      have HU2 := Lib.hid hu2
      clear hlk hB hB2 hu hu2
      go_wp2_with fail
      go_wp2_with fail
      ((with_reducible refine (HLK.out _).mono ?_); rintro e w' ⟨rfl, hbw⟩)
      obtain ⟨m, rfl⟩ := grow_mk hbw
      clear hbw
      cases B with
      | true =>
        have he : X = [99, 113, 104] := by have := HB.out; simpa using this.symm
        go_wp2_with fail
        go_ret
        exact ⟨by rw [HU2.out, if_pos he]; rfl, below_grow hb.out m⟩
      | false =>
        have he : ¬ X = [99, 113, 104] := by have := HB.out; simpa using this.symm
        go_wp2_with fail
        go_roundg 0
        case measure => omega
        case rel => exact ⟨8, 8, rfl, rfl, by omega, Lib.hid (below_grow hb.out m), Lib.hid (by rw [HU2.out, if_neg he]; simp only [unitsS, Nat.reduceSub, List.drop_succ_cons, List.drop_zero, unitG, Nat.reduceAdd]), Nat.le_refl _⟩
    · obtain rfl : z = 8 := by omega
      clear hz
      go_wp2_with fail
      go_ret
      exact ⟨by rw [hu.out]; rfl, hb.out⟩

end Go.Proofs.YtplnhjmomomphaaDoor

namespace Go.Proofs.YtplnhjmomomphaaDoor
set_option linter.unusedVariables false
set_option linter.unusedSimpArgs false
open Go.RowKit

mutual
def Ex.c : Ex → Et
  | .mk k n d u _ _ _ _ kids => .mk k n d u (Ex.cs kids)
def Ex.cs : List Ex → List Et
  | [] => []
  | x :: r => x.c :: Ex.cs r
end
theorem Ex.cs_map : ∀ l : List Ex, Ex.cs l = l.map Ex.c
  | [] => rfl
  | x :: r => by rw [Ex.cs, Ex.cs_map r]; rfl
theorem Ex.c_mk (k n d u : Int) (oa : Option Addr) (b o cap : Nat) (kids : List Ex) : (Ex.mk k n d u oa b o cap kids).c = .mk k n d u (kids.map Ex.c) := by rw [Ex.c, Ex.cs_map]
theorem xcells_length (x : Ex) : (xcells x).length = 5 := by cases x; rfl

theorem ExIn.of_sl {w : World} {h : Nat} {k n d u : Int} {oa : Option Addr} {b cap : Nat} {l : List Ex} (hk : I64 k) (hn : Is64 (n, d)) (hu : I64 u) (hl : l.length * 56 ≤ 140737488355328) (hs : Sl w oa l.length cap b 0 5 (l.flatMap xcells)) (he : ∀ x ∈ l, ExIn w h x) : ExIn w (h + 1) (.mk k n d u oa b 0 cap l) :=
  ⟨hk, hn, hu, hs.le, hs.max, hl, hs.lies, fun i x hi => ⟨fun j v hv => by
    have := hs.cell _ _ (flat_at xcells_length l i x j v hi hv)
    rw [show 0 + i * 5 + j = 0 + (i * 5 + j) by omega]
    exact this, he x (List.mem_of_getElem? hi)⟩⟩
theorem ExIn.made {A : Nat → Prop} {w : World} {h : Nat} {k n d u : Int} {oa : Option Addr} {b cap : Nat} {l : List Ex} (hk : I64 k) (hn : Is64 (n, d)) (hu : I64 u) (hl : l.length * 56 ≤ 140737488355328) (hs : Sl w oa l.length cap b 0 5 (l.flatMap xcells)) (hA : 0 < l.length → ¬ A b)
    (he : Safe A w fun w => ∀ x ∈ l, ExIn w h x) : Safe A w fun w => ExIn w (h + 1) (.mk k n d u oa b 0 cap l) := fun w' g1 g2 => .of_sl hk hn hu hl ((hs.safe hA) w' g1 g2) (he w' g1 g2)
theorem ExIn.leaf {A : Nat → Prop} {w : World} {k n d u : Int} (hk : I64 k) (hn : Is64 (n, d)) (hu : I64 u) : Safe A w fun w => ExIn w 1 (.mk k n d u none 0 0 0 []) := fun w' _ _ =>
  .of_sl (h := 0) hk hn hu (by simp) ⟨rfl, Nat.le_refl _, Nat.zero_le _, fun h => absurd h (by simp), fun j v h => by simp at h⟩ (fun x hx => by cases hx)

/-- the expression E is the value v; it lies clear of A -/
def isEx (A : Nat → Prop) (E : Et) (v : Value) (w : World) : Prop := ∃ (x : Ex) (h : Nat), v = xv x ∧ x.c = E ∧ Safe A w fun w => ExIn w h x
/-- five cells of an expression -/
def isE5 (v : Value) : Prop := ∃ (k n d u : Int) (oa : Option Addr) (L cap : Nat), v = .agg #[.int .i64 k, .int .i64 n, .int .i64 d, .int .i64 u, .slice oa L cap]
theorem isE5_xv (x : Ex) : isE5 (xv x) := by obtain ⟨k, n, d, u, oa, b, o, cap, kids⟩ := x; exact ⟨k, n, d, u, oa, kids.length, cap, rfl⟩
theorem isEx.e5 {A : Nat → Prop} {E : Et} {v : Value} {w : World} (h : isEx A E v w) : isE5 v := by obtain ⟨x, _, rfl, _⟩ := h; exact isE5_xv x
theorem isEx.anti {A A' : Nat → Prop} {E : Et} {v : Value} {w : World} (h : isEx A E v w) (hA : ∀ b, A' b → A b ∨ w.heap.size ≤ b) : isEx A' E v w := by
  obtain ⟨x, hh, hv, hc, hs⟩ := h
  exact ⟨x, hh, hv, hc, hs.wide hA⟩
theorem isEx.grown {A : Nat → Prop} {E : Et} {v : Value} {w w' : World} {row : Option Nat} (h : isEx A E v w) (hg : w.grownBy w' row) (hr : ∀ k, row = some k → k < w.heap.size → A k) : isEx A E v w' := by
  obtain ⟨x, hh, hv, hc, hs⟩ := h
  exact ⟨x, hh, hv, hc, hs.grown hg hr⟩
theorem isEx.below {A : Nat → Prop} {E : Et} {v : Value} {w w' : World} (h : isEx A E v w) (hb : Below w.heap.size w w') : isEx A E v w' := h.grown (grownBy_of_below hb none) (fun _ e => by cases e)
/-- an expression, or none: what is told of it -/
def retE (A : Nat → Prop) (r : Option Et) (e : Ending) (w : World) : Prop := ∃ (v : Value) (ok : Bool), e = .returned (.tuple #[v, .bool ok]) ∧ ok = r.isSome ∧ isE5 v ∧ ∀ E, r = some E → isEx A E v w

theorem Blk.put5 {w : World} {g : Nat} {t : TypeId} {a0 a1 a2 a3 a4 : Value} (h : Blk w g t #[a0, a1, a2, a3, a4]) (x0 x1 x2 x3 x4 : Value) :
    Blk (((((w.setCell ⟨g, 0, none⟩ x0).setCell ⟨g, 1, none⟩ x1).setCell ⟨g, 2, none⟩ x2).setCell ⟨g, 3, none⟩ x3).setCell ⟨g, 4, none⟩ x4) g t #[x0, x1, x2, x3, x4] := ((((h.put 0 x0).put 1 x1).put 2 x2).put 3 x3).put 4 x4
theorem below_put5 {B : Nat} {w0 w : World} (h : Below B w0 w) {g : Nat} (hg : B ≤ g) (x0 x1 x2 x3 x4 : Value) :
    Below B w0 (((((w.setCell ⟨g, 0, none⟩ x0).setCell ⟨g, 1, none⟩ x1).setCell ⟨g, 2, none⟩ x2).setCell ⟨g, 3, none⟩ x3).setCell ⟨g, 4, none⟩ x4) := ((((h.setCell hg x0).setCell hg x1).setCell hg x2).setCell hg x3).setCell hg x4
theorem sizeExpr : (Tryd.prog.info? 27).map (·.size) = some 5 := by kernel_rfl
theorem load_ex {w : World} {g : Nat} {t : TypeId} {cs : Array Value} (h : Blk w g t cs) (hs : cs.size = 5) : (loadVar 27 ⟨g, 0, none⟩).run Tryd.prog w = .ok (.agg cs) w :=
  run_loadVar_row w g t _ cs (0, 0) _ h Tryd.underlying27 rfl (by rw [hs]; exact sizeExpr)
theorem ret_ex {fn : Func} {p : Tmp} {tmps : Array Value} {w : World} {g : Nat} {t : TypeId} {cs : Array Value} (hr : fn.results = #[.cell p 27]) (hp : tmps.getD p undef = .pointer (some ⟨g, 0, none⟩)) (h : Blk w g t cs) (hs : cs.size = 5) : (results fn tmps).run Tryd.prog w = .ok (.agg cs) w :=
  results_cell_row hr tmps w g t cs (0, 0) _ hp h Tryd.underlying27 rfl (by rw [hs]; exact sizeExpr)
theorem ret_ex2 {fn : Func} {p u : Tmp} {tmps : Array Value} {w : World} {g : Nat} {t : TypeId} {cs : Array Value} {x : Value} (hr : fn.results = #[.cell p 27, .tmp u]) (hp : tmps.getD p undef = .pointer (some ⟨g, 0, none⟩)) (hu : tmps.getD u undef = x) (h : Blk w g t cs) (hs : cs.size = 5) : (results fn tmps).run Tryd.prog w = .ok (.tuple #[.agg cs, x]) w := by
  rw [results_cell_tmp hr, hp, hu]
  simp only [asAddr, Sem.run_pure, Result.andThen_ok, load_ex h hs]

theorem i64_small (k : Int) (h : 0 ≤ k ∧ k ≤ 8) : I64 k := by unfold I64; omega

set_option maxHeartbeats 2000000 in
theorem cnumber_any (r : Rt) (u : Int) (w : World) (h64 : Is64 r) :
    Calls Tryd.prog 44 #[rv r, .int .i64 u] w fun e w' => e = .returned (.agg #[.int .i64 1, .int .i64 (cleanR r).1, .int .i64 (cleanR r).2, .int .i64 u, .slice none 0 0]) ∧ Below w.heap.size w w' := by
  have hm := fun w => may_any r w h64
  unfold cleanR
  obtain ⟨n, d⟩ := r
  obtain ⟨B, hB⟩ : ∃ B, mayB (n, d) = B := ⟨_, rfl⟩
  rw [hB] at hm ⊢
  have HM := Lib.hid hm
  clear hm hB h64
  go_enter Tryd.func44, Tryd.ntmps44
  go_wp2_with fail
  ((with_reducible refine (HM.out _).mono ?_); rintro e w' ⟨rfl, hbw⟩)
  obtain ⟨m, rfl⟩ := grow_mk hbw
  clear hbw
  have hb := Lib.hid (below_grow ((below_box w (.cells #[.int .i64 n, .int .i64 d] 24)).alloc (by simp) (.cells #[.int .i64 0, .int .i64 0, .int .i64 0, .int .i64 0, .slice none 0 0] 27)) m)
  have h0 := ((Blk.new w 24 #[.int .i64 n, .int .i64 d]).old (.cells #[.int .i64 0, .int .i64 0, .int .i64 0, .int .i64 0, .slice none 0 0] 27)).grow m
  have h1 := (Blk.new2 w (.cells #[.int .i64 n, .int .i64 d] 24) 27 #[.int .i64 0, .int .i64 0, .int .i64 0, .int .i64 0, .slice none 0 0]).grow m
  generalize grow _ m = wa at *
  clear m
  have ca0 : wa.cell? ⟨w.heap.size, 0, none⟩ = some (.int .i64 n) := (h0).cell 0
  have fca0 := (h0).frozen 0
  have ca1 : wa.cell? ⟨w.heap.size, 1, none⟩ = some (.int .i64 d) := (h0).cell 1
  have fca1 := (h0).frozen 1
  have lca := (h0).lt
  have cb0 : wa.cell? ⟨w.heap.size + 1, 0, none⟩ = some (.int .i64 0) := (h1).cell 0
  have fcb0 := (h1).frozen 0
  have cb1 : wa.cell? ⟨w.heap.size + 1, 1, none⟩ = some (.int .i64 0) := (h1).cell 1
  have fcb1 := (h1).frozen 1
  have cb2 : wa.cell? ⟨w.heap.size + 1, 2, none⟩ = some (.int .i64 0) := (h1).cell 2
  have fcb2 := (h1).frozen 2
  have cb3 : wa.cell? ⟨w.heap.size + 1, 3, none⟩ = some (.int .i64 0) := (h1).cell 3
  have fcb3 := (h1).frozen 3
  have cb4 : wa.cell? ⟨w.heap.size + 1, 4, none⟩ = some (.slice none 0 0) := (h1).cell 4
  have fcb4 := (h1).frozen 4
  have lcb := (h1).lt
  clear h0
  have H1 := Lib.hid h1
  clear h1
  cases B with
  | true =>
    go_wp2_with fail
    have hputs := (H1.out).put5 (.int .i64 1) (.int .i64 n) (.int .i64 d) (.int .i64 u) (.slice none 0 0)
    refine bodyPost_ret (v := .agg #[.int .i64 1, .int .i64 n, .int .i64 d, .int .i64 u, .slice none 0 0]) ?_ rfl ?_
    · refine ret_ex Tryd.results44 ?_ hputs rfl
      all_goals rfl
    · exact ⟨rfl, below_put5 hb.out (by simp) _ _ _ _ _⟩
  | false =>
    go_wp2_with fail
    have H2 := H1.out.far2 (g' := w.heap.size) (by simp) 0 1 (.int .i64 0) (.int .i64 0)
    have hputs := (H2).put5 (.int .i64 1) (.int .i64 0) (.int .i64 0) (.int .i64 u) (.slice none 0 0)
    refine bodyPost_ret (v := .agg #[.int .i64 1, .int .i64 0, .int .i64 0, .int .i64 u, .slice none 0 0]) ?_ rfl ?_
    · refine ret_ex Tryd.results44 ?_ hputs rfl
      all_goals rfl
    · exact ⟨rfl, below_put5 ((hb.out.setCell (p := ⟨w.heap.size, 0, none⟩) (Nat.le_refl _) _).setCell (p := ⟨w.heap.size, 1, none⟩) (Nat.le_refl _) _) (by simp) _ _ _ _ _⟩

set_option maxRecDepth 20000 in
set_option maxHeartbeats 4000000 in
theorem csingle_any (A : Nat → Prop) (h : Nat) (k : Int) (oa : Option Addr) (b o cap : Nat) (kids : List Ex) (w : World) (hx : Safe A w fun w => ExIn w (h + 1) (.mk k 0 0 0 oa b o cap kids)) :
    Calls Tryd.prog 85 #[.agg #[.int .i64 k, .int .i64 0, .int .i64 0, .int .i64 0, .slice oa kids.length cap]] w fun e w' => (∃ v, e = .returned v ∧ isEx A (single k (kids.map Ex.c)) v w') ∧ Below w.heap.size w w' := by
  have hin := hx.here
  obtain ⟨h1, h2, h3, h4, h5, h6, h7, h8⟩ := hin
  have hsm : kids.length ≤ 9223372036854775807 := Nat.le_trans (Nat.le_trans h4 h5) (by decide)
  have HX := Lib.hid hx
  obtain ⟨L, hL⟩ : ∃ L, kids.length = L := ⟨_, rfl⟩
  rw [hL] at hsm ⊢
  have HL := Lib.hid hL
  by_cases h1 : L = 1
  · subst h1
    obtain ⟨x, rfl⟩ : ∃ x, kids = [x] := List.length_eq_one_iff.1 HL.out
    obtain ⟨h81, h82⟩ := h8 0 x rfl
    obtain ⟨rfl, hbl⟩ := h7 (by simp)
    have HE := Lib.hid (show isEx A x.c (xv x) w from ⟨x, h, rfl, rfl, hx.mono fun w' hw => by
      obtain ⟨_, _, _, _, _, _, _, g8⟩ := hw
      exact (g8 0 x rfl).2⟩)
    obtain ⟨k', n', d', u', oa', b', o', cap', kids'⟩ := x
    have f0 : w.cell? ⟨b, o, none⟩ = some (.int .i64 k') := h81 0 _ rfl
    have f1 : w.cell? ⟨b, o + 1, none⟩ = some (.int .i64 n') := h81 1 _ rfl
    have f2 : w.cell? ⟨b, o + 2, none⟩ = some (.int .i64 d') := h81 2 _ rfl
    have f3 : w.cell? ⟨b, o + 3, none⟩ = some (.int .i64 u') := h81 3 _ rfl
    have f4 : w.cell? ⟨b, o + 4, none⟩ = some (.slice oa' kids'.length cap') := h81 4 _ rfl
    clear h81 h82 h8 h7 hL HL hx HX
    obtain ⟨K', hK'⟩ : ∃ K', kids'.length = K' := ⟨_, rfl⟩
    have HE2 := Lib.hid (show isEx A (Ex.mk k' n' d' u' oa' b' o' cap' kids').c (.agg #[.int .i64 k', .int .i64 n', .int .i64 d', .int .i64 u', .slice oa' K' cap']) w by rw [← hK']; exact HE.out)
    rw [hK'] at f4
    clear HE hK'
    go_enter Tryd.func85, Tryd.ntmps85
    go_wp2_with fail
    have hbb := (below_box w (.cells #[.int .i64 k, .int .i64 0, .int .i64 0, .int .i64 0, .slice (some ⟨b, o, none⟩) 1 cap] 27)).alloc (by simp) (.cells #[.int .i64 k', .int .i64 n', .int .i64 d', .int .i64 u', .slice oa' K' cap'] 27)
    have hputs := Blk.new2 w (.cells #[.int .i64 k, .int .i64 0, .int .i64 0, .int .i64 0, .slice (some ⟨b, o, none⟩) 1 cap] 27) 27 #[.int .i64 k', .int .i64 n', .int .i64 d', .int .i64 u', .slice oa' K' cap']
    refine bodyPost_ret (v := .agg #[.int .i64 k', .int .i64 n', .int .i64 d', .int .i64 u', .slice oa' K' cap']) ?_ rfl ?_
    · refine ret_ex Tryd.results85 ?_ hputs rfl
      all_goals rfl
    · exact ⟨⟨_, rfl, HE2.out.below hbb⟩, hbb⟩
  · have g1 : ((L : Int) == 1) = false := by simp; omega
    have hbb := (below_box w (.cells #[.int .i64 k, .int .i64 0, .int .i64 0, .int .i64 0, .slice oa L cap] 27)).alloc (by simp) (.cells #[.int .i64 k, .int .i64 0, .int .i64 0, .int .i64 0, .slice oa L cap] 27)
    have hb1 := Blk.new2 w (.cells #[.int .i64 k, .int .i64 0, .int .i64 0, .int .i64 0, .slice oa L cap] 27) 27 #[.int .i64 k, .int .i64 0, .int .i64 0, .int .i64 0, .slice oa L cap]
    have hs : single k (kids.map Ex.c) = (Ex.mk k 0 0 0 oa b o cap kids).c := by
      rw [Ex.c_mk]
      match kids, HL.out with
      | [], _ => rfl
      | [x], e => exact absurd e.symm h1
      | x :: y :: r, _ => rfl
    have HE := Lib.hid (show isEx A (single k (kids.map Ex.c)) (.agg #[.int .i64 k, .int .i64 0, .int .i64 0, .int .i64 0, .slice oa L cap]) w from ⟨_, _, by rw [← HL.out]; rfl, hs.symm, hx⟩)
    have HB1 := Lib.hid hb1
    have HBB := Lib.hid hbb
    clear hb1 hbb hs hx HX h7 h8 hL h1
    go_enter Tryd.func85, Tryd.ntmps85
    go_wp2_with fail
    have hputs := HB1.out
    refine bodyPost_ret (v := .agg #[.int .i64 k, .int .i64 0, .int .i64 0, .int .i64 0, .slice oa L cap]) ?_ rfl ?_
    · refine ret_ex Tryd.results85 ?_ hputs rfl
      all_goals rfl
    · exact ⟨⟨_, rfl, HE.out.below HBB.out⟩, HBB.out⟩

end Go.Proofs.YtplnhjmomomphaaDoor

namespace Go.Proofs.YtplnhjmomomphaaDoor
set_option linter.unusedVariables false
set_option linter.unusedSimpArgs false
open Go.RowKit

set_option maxRecDepth 20000 in
set_option maxHeartbeats 4000000 in
theorem rsame_both : ∀ (h : Nat) (e : Ex) (h2 : Nat) (e2 : Ex) (w : World), ExIn w h e → ExIn w h2 e2 → e.c = e2.c →
    Calls Tryd.prog 11 #[xv e, xv e2] w fun x w' => x = .returned (.bool true) ∧ Below w.heap.size w w' := by
  intro h
  induction h with
  | zero => exact fun _ _ _ _ h => h.elim
  | succ h ih =>
    intro e hh2 e2 w hx hy hc
    obtain _ | hh2 := hh2
    · exact hy.elim
    obtain ⟨k, n, d, u, oa, b, o, cap, kids⟩ := e
    obtain ⟨k2, n2, d2, u2, oa2, b2, o2, cap2, kids2⟩ := e2
    rw [Ex.c_mk, Ex.c_mk] at hc
    injection hc with ek en ed eu el
    subst ek en ed eu
    obtain ⟨h1, h2, h3, h4, h5, h6, h7, h8⟩ := hx
    obtain ⟨y1, y2, y3, y4, y5, y6, y7, y8⟩ := hy
    have hll : kids2.length = kids.length := by have := congrArg List.length el; simpa using this.symm
    have hsm : kids.length ≤ 9223372036854775807 := Nat.le_trans (Nat.le_trans h4 h5) (by decide)
    have HIH := Lib.hid ih
    have HEL := Lib.hid el
    clear ih h1 h2 h3 h6 y1 y2 y3 y6 el
    rw [xv_mk, xv_mk]
    rw [hll] at y4 y7 ⊢
    have HLL := Lib.hid hll
    clear hll
    go_enter Tryd.func11, Tryd.ntmps11
    go_wp2_with fail
    go_loopg [37] kids.length (fun kk s wr => ∃ (i : Nat), s = .int .i64 i ∧ Hid (Gk w wr 27 #[.int .i64 k, .int .i64 n, .int .i64 d, .int .i64 u, .slice oa kids.length cap]) ∧ Hid (Blk wr (w.heap.size + 1) 27 #[.int .i64 k, .int .i64 n, .int .i64 d, .int .i64 u, .slice oa2 kids.length cap2]) ∧ i ≤ kids.length ∧ kids.length - i ≤ kk)
    case atStart => exact ⟨0, rfl, Lib.hid ⟨(below_box _ _).alloc (by simp) _, (Blk.new _ _ _).old _⟩, Lib.hid (Blk.new2 _ _ _ _), Nat.zero_le _, by omega⟩
    case round =>
      obtain ⟨i, rfl, hg, hg2, hle, hk2⟩ := hrel
      have hbel := Lib.hid hg.out.below
      by_cases hi : i < kids.length
      · have gi : decide ((i : Int) < kids.length) = true := by simpa using hi
        have hr : kids[i]? = some kids[i] := List.getElem?_eq_getElem hi
        have hi2 : i < kids2.length := by rw [HLL.out]; exact hi
        have hr2 : kids2[i]? = some kids2[i] := List.getElem?_eq_getElem hi2
        have hx := h8 i _ hr
        have hy := y8 i _ hr2
        have hcc : kids[i].c = kids2[i].c := by
          have := congrArg (fun l => l[i]?) HEL.out
          simp only [List.getElem?_map, hr, hr2, Option.map_some] at this
          exact Option.some.inj this
        obtain ⟨rfl, hbl⟩ := h7 (by omega)
        obtain ⟨rfl, hbl2⟩ := y7 (by omega)
        generalize kids[i] = x at *
        generalize kids2[i] = y at *
        have hX := fun wx hb => HIH.out x hh2 y wx (hx.2.below (w' := wx) _ hb) (hy.2.below (w' := wx) _ hb) hcc
        obtain ⟨k', n', d', u', oa', b', o', cap', kids'⟩ := x
        obtain ⟨k'2, n'2, d'2, u'2, oa'2, b'2, o'2, cap'2, kids'2⟩ := y
        obtain ⟨K', hK'⟩ : ∃ K', kids'.length = K' := ⟨_, rfl⟩
        obtain ⟨K'2, hK'2⟩ : ∃ K', kids'2.length = K' := ⟨_, rfl⟩
        simp only [xv_mk, hK', hK'2] at hX
        have HX := Lib.hid hX
        have cb0 : wr.cell? ⟨w.heap.size, 0, none⟩ = some (.int .i64 k) := (hg.out.box).cell 0
        have fcb0 := (hg.out.box).frozen 0
        have cb1 : wr.cell? ⟨w.heap.size, 1, none⟩ = some (.int .i64 n) := (hg.out.box).cell 1
        have fcb1 := (hg.out.box).frozen 1
        have cb2 : wr.cell? ⟨w.heap.size, 2, none⟩ = some (.int .i64 d) := (hg.out.box).cell 2
        have fcb2 := (hg.out.box).frozen 2
        have cb3 : wr.cell? ⟨w.heap.size, 3, none⟩ = some (.int .i64 u) := (hg.out.box).cell 3
        have fcb3 := (hg.out.box).frozen 3
        have cb4 : wr.cell? ⟨w.heap.size, 4, none⟩ = some (.slice (some ⟨b, o, none⟩) kids.length cap) := (hg.out.box).cell 4
        have fcb4 := (hg.out.box).frozen 4
        have lcb := (hg.out.box).lt
        have cc0 : wr.cell? ⟨w.heap.size + 1, 0, none⟩ = some (.int .i64 k) := (hg2.out).cell 0
        have fcc0 := (hg2.out).frozen 0
        have cc1 : wr.cell? ⟨w.heap.size + 1, 1, none⟩ = some (.int .i64 n) := (hg2.out).cell 1
        have fcc1 := (hg2.out).frozen 1
        have cc2 : wr.cell? ⟨w.heap.size + 1, 2, none⟩ = some (.int .i64 d) := (hg2.out).cell 2
        have fcc2 := (hg2.out).frozen 2
        have cc3 : wr.cell? ⟨w.heap.size + 1, 3, none⟩ = some (.int .i64 u) := (hg2.out).cell 3
        have fcc3 := (hg2.out).frozen 3
        have cc4 : wr.cell? ⟨w.heap.size + 1, 4, none⟩ = some (.slice (some ⟨b2, o2, none⟩) kids.length cap2) := (hg2.out).cell 4
        have fcc4 := (hg2.out).frozen 4
        have lcc := (hg2.out).lt
        have f0 : wr.cell? ⟨b, o + i * 5, none⟩ = some (.int .i64 k') := (hg.out.below.cell hbl).trans (hx.1 0 _ rfl)
        have f1 : wr.cell? ⟨b, o + i * 5 + 1, none⟩ = some (.int .i64 n') := (hg.out.below.cell hbl).trans (hx.1 1 _ rfl)
        have f2 : wr.cell? ⟨b, o + i * 5 + 2, none⟩ = some (.int .i64 d') := (hg.out.below.cell hbl).trans (hx.1 2 _ rfl)
        have f3 : wr.cell? ⟨b, o + i * 5 + 3, none⟩ = some (.int .i64 u') := (hg.out.below.cell hbl).trans (hx.1 3 _ rfl)
        have f4 : wr.cell? ⟨b, o + i * 5 + 4, none⟩ = some (.slice oa' K' cap') := by rw [← hK']; exact (hg.out.below.cell hbl).trans (hx.1 4 _ rfl)
        have e0 : wr.cell? ⟨b2, o2 + i * 5, none⟩ = some (.int .i64 k'2) := (hg.out.below.cell hbl2).trans (hy.1 0 _ rfl)
        have e1 : wr.cell? ⟨b2, o2 + i * 5 + 1, none⟩ = some (.int .i64 n'2) := (hg.out.below.cell hbl2).trans (hy.1 1 _ rfl)
        have e2 : wr.cell? ⟨b2, o2 + i * 5 + 2, none⟩ = some (.int .i64 d'2) := (hg.out.below.cell hbl2).trans (hy.1 2 _ rfl)
        have e3 : wr.cell? ⟨b2, o2 + i * 5 + 3, none⟩ = some (.int .i64 u'2) := (hg.out.below.cell hbl2).trans (hy.1 3 _ rfl)
        have e4 : wr.cell? ⟨b2, o2 + i * 5 + 4, none⟩ = some (.slice oa'2 K'2 cap'2) := by rw [← hK'2]; exact (hg.out.below.cell hbl2).trans (hy.1 4 _ rfl)
        have lb : b < wr.heap.size := Nat.lt_of_lt_of_le hbl hg.out.below.size
        have lb2 : b2 < wr.heap.size := Nat.lt_of_lt_of_le hbl2 hg.out.below.size
        clear hx hy hr hr2 h8 y8 h7 y7 hcc hX hi2 hK' hK'2
        go_wp2_with fail
        refine wp_region_grow (by kernel_rfl) (by kernel_rfl) ?_
        repeat (go_big_quiet_step ((first | (go_at_call 11; exact calls_grow (HX.out _ (below_grow hbel.out _))))))
        refine wpQuiet_nil ?_
        rintro _ ⟨m, rfl⟩
        go_wp2_with fail
        go_roundg (kids.length - (i + 1))
        case measure => omega
        case rel => exact ⟨i + 1, by go_num, Lib.hid ⟨below_grow hbel.out m, hg.out.box.grow m⟩, Lib.hid (hg2.out.grow m), hi, by omega⟩
      · obtain rfl : i = kids.length := by omega
        go_wp2_with fail
        go_ret
        exact ⟨ret_bool rfl, hbel.out⟩

/-- what both readers tell is the same -/
theorem rsame_is {A A' : Nat → Prop} {E : Et} {v v2 : Value} {w : World} (h : isEx A E v w) (h2 : isEx A' E v2 w) :
    Calls Tryd.prog 11 #[v, v2] w fun x w' => x = .returned (.bool true) ∧ Below w.heap.size w w' := by
  obtain ⟨x, hh, rfl, hc, hs⟩ := h
  obtain ⟨y, hh2, rfl, hc2, hs2⟩ := h2
  exact rsame_both hh x hh2 y w hs.here hs2.here (hc.trans hc2.symm)

end Go.Proofs.YtplnhjmomomphaaDoor
