/- What is known does not turn: the walk. -/
import Derived.Test.YtgjhaanpkfheeaaEvalW
namespace Go.Proofs.Ytgjhaanpkfheeaa
set_option linter.unusedVariables false
set_option linter.unusedSimpArgs false
open Go.RowKit

set_option maxRecDepth 20000 in
set_option maxHeartbeats 8000000 in
theorem law_condKleene (eoa : Option Addr) (elen ecap eb eo : Nat) (ns : List ByteArray) (toa : Option Addr) (tlen tcap tb tf : Nat) (ts : List Int) (uoa : Option Addr) (ulen ucap ub uf : Nat) (us : List Int) (h : Nat) (e : Cd) (w : World)
    (hx : CdIn w h e) (hN : Strs w eoa elen ecap eb eo ns) (hT : Ints w toa tlen tcap tb tf ts) (hU : Ints w uoa ulen ucap ub uf us) (hlen : ts.length * 8 ≤ 140737488355328) :
    Calls Try.prog 12 #[cv e, .slice eoa elen ecap, .slice toa tlen tcap, .slice uoa ulen ucap] w fun x w' => x = .returned (.bool true) ∧ Below w.heap.size w w' := by
  have hBy := fun wx (hb : Below w.heap.size w wx) => byC_any eoa elen ecap eb eo ns toa tlen tcap tb tf ts wx (hN.below hb) (hT.below hb)
  have hEv := fun gN gT wx (hb : Below w.heap.size w wx) hE => cEval_by gN gT eoa elen ecap eb eo ns toa tlen tcap tb tf ts h e wx (hx.below h hb) hE
  have hBy2 := fun oa2 cap2 g2 wx (hb : Below w.heap.size w wx) (hI : Ints wx oa2 (fillL ts us).length cap2 g2 0 (fillL ts us)) => byC_any eoa elen ecap eb eo ns oa2 (fillL ts us).length cap2 g2 0 (fillL ts us) wx (hN.below hb) hI
  have hEv2 := fun oa2 cap2 g2 gN gT wx (hb : Below w.heap.size w wx) hE => cEval_by gN gT eoa elen ecap eb eo ns oa2 (fillL ts us).length cap2 g2 0 (fillL ts us) h e wx (hx.below h hb) hE
  have hK := kleene ns ts us h e
  have hAw := awakeC_any
  have hl1 := hT.hlen
  have hl2 := hU.hlen
  subst hl1 hl2
  obtain ⟨X1, e1⟩ : ∃ X, evalM (fun lf => byF ns ts lf.name) h e = X := ⟨_, rfl⟩
  obtain ⟨X2, e2⟩ : ∃ X, evalM (fun lf => byF ns (fillL ts us) lf.name) h e = X := ⟨_, rfl⟩
  simp only [e1] at hEv
  simp only [e2] at hEv2
  rw [e1, e2] at hK
  have HFL := Lib.hid (fillL_length ts us)
  have HFG := Lib.hid (fillL_get ts us)
  have h64 : ∀ x ∈ fillL ts us, I64 x := fun x hx => by
    obtain ⟨i, hi⟩ := List.getElem?_of_mem hx
    have hi2 : i < ts.length := by have := (List.getElem?_eq_some_iff.1 hi).1; rw [fillL_length] at this; exact this
    have := fillL_get ts us i _ (List.getElem?_eq_getElem hi2)
    rw [hi] at this
    have e := Option.some.inj this
    have := fill1_three ts[i] us[i]?
    rw [← e] at this
    unfold I64; omega
  have H64 := Lib.hid h64
  rw [fillL_length] at hBy2 hEv2
  generalize fillL ts us = fl at *
  have htm : ts.length ≤ maxLen := Nat.le_trans hT.hcap hT.small
  have hs1 : ts.length ≤ 9223372036854775807 := Nat.le_trans htm (by decide)
  have hs2 : us.length ≤ 9223372036854775807 := Nat.le_trans (Nat.le_trans hU.hcap hU.small) (by decide)
  obtain ⟨c, oa, b, o, cap, kids, ⟨lk, lt, nm, op, ⟨k', n, d, u, oa', b', o', cap', kids'⟩, wd, vl, an⟩⟩ := e
  simp only [cv_mk] at hEv hEv2 ⊢
  have HBY := Lib.hid hBy
  have HEV := Lib.hid hEv
  have HBY2 := Lib.hid hBy2
  have HEV2 := Lib.hid hEv2
  have HK := Lib.hid hK
  have HAW := Lib.hid hAw
  have HT := Lib.hid (fun wx (hb : Below w.heap.size w wx) => hT.below hb)
  have HU := Lib.hid (fun wx (hb : Below w.heap.size w wx) => hU.below hb)
  clear hBy hEv hBy2 hEv2 hK hAw e1 e2 hx hN hT hU h64
  obtain ⟨i0, hi0, hz0, hz1, hz2⟩ := info_parts infoInt
  have hb : Below w.heap.size w (w.alloc (.cells #[.int .i64 c, .slice oa kids.length cap, .int .i64 lk, .int .i64 lt, .string nm, .int .i64 op, .int .i64 k', .int .i64 n, .int .i64 d, .int .i64 u, .slice oa' kids'.length cap', .string wd, .string vl, .bool an] 49)) := below_box _ _
  have hbx : Blk (w.alloc (.cells #[.int .i64 c, .slice oa kids.length cap, .int .i64 lk, .int .i64 lt, .string nm, .int .i64 op, .int .i64 k', .int .i64 n, .int .i64 d, .int .i64 u, .slice oa' kids'.length cap', .string wd, .string vl, .bool an] 49)) w.heap.size 49 #[.int .i64 c, .slice oa kids.length cap, .int .i64 lk, .int .i64 lt, .string nm, .int .i64 op, .int .i64 k', .int .i64 n, .int .i64 d, .int .i64 u, .slice oa' kids'.length cap', .string wd, .string vl, .bool an] := Blk.new _ _ _
  go_enter Try.func12, Try.ntmps12
  go_wp2_with fail
  ((with_reducible refine (HAW.out _).mono ?_); rintro e w' ⟨rfl, hbw⟩)
  obtain ⟨m, rfl⟩ := grow_mk hbw
  clear hbw
  replace hb := below_grow hb m
  replace hbx := hbx.grow m
  generalize grow _ m = wa at *
  have cb0 : wa.cell? ⟨w.heap.size, 0, none⟩ = some (.int .i64 c) := (hbx).cell 0
  have fcb0 := (hbx).frozen 0
  have cb1 : wa.cell? ⟨w.heap.size, 1, none⟩ = some (.slice oa kids.length cap) := (hbx).cell 1
  have fcb1 := (hbx).frozen 1
  have cb2 : wa.cell? ⟨w.heap.size, 2, none⟩ = some (.int .i64 lk) := (hbx).cell 2
  have fcb2 := (hbx).frozen 2
  have cb3 : wa.cell? ⟨w.heap.size, 3, none⟩ = some (.int .i64 lt) := (hbx).cell 3
  have fcb3 := (hbx).frozen 3
  have cb4 : wa.cell? ⟨w.heap.size, 4, none⟩ = some (.string nm) := (hbx).cell 4
  have fcb4 := (hbx).frozen 4
  have cb5 : wa.cell? ⟨w.heap.size, 5, none⟩ = some (.int .i64 op) := (hbx).cell 5
  have fcb5 := (hbx).frozen 5
  have cb6 : wa.cell? ⟨w.heap.size, 6, none⟩ = some (.int .i64 k') := (hbx).cell 6
  have fcb6 := (hbx).frozen 6
  have cb7 : wa.cell? ⟨w.heap.size, 7, none⟩ = some (.int .i64 n) := (hbx).cell 7
  have fcb7 := (hbx).frozen 7
  have cb8 : wa.cell? ⟨w.heap.size, 8, none⟩ = some (.int .i64 d) := (hbx).cell 8
  have fcb8 := (hbx).frozen 8
  have cb9 : wa.cell? ⟨w.heap.size, 9, none⟩ = some (.int .i64 u) := (hbx).cell 9
  have fcb9 := (hbx).frozen 9
  have cb10 : wa.cell? ⟨w.heap.size, 10, none⟩ = some (.slice oa' kids'.length cap') := (hbx).cell 10
  have fcb10 := (hbx).frozen 10
  have cb11 : wa.cell? ⟨w.heap.size, 11, none⟩ = some (.string wd) := (hbx).cell 11
  have fcb11 := (hbx).frozen 11
  have cb12 : wa.cell? ⟨w.heap.size, 12, none⟩ = some (.string vl) := (hbx).cell 12
  have fcb12 := (hbx).frozen 12
  have cb13 : wa.cell? ⟨w.heap.size, 13, none⟩ = some (.bool an) := (hbx).cell 13
  have fcb13 := (hbx).frozen 13
  have lcb := (hbx).lt
  go_wp2_with fail
  refine wp_region_loose 5 [Loose.fn 3 19 (isBy eoa elen ecap eb eo ns toa ts.length tcap tb tf ts) (isBy_stays eoa elen ecap eb eo ns toa ts.length tcap tb tf ts), Loose.claim 4 20 (.int .i64 X1)] (by kernel_rfl) rfl (by kernel_rfl) (by kernel_rfl) (by kernel_rfl) (by kernel_rfl) ?_
  simp only [headL, hushL, List.find?, Loose.claim_i, Loose.cells_i, Loose.rowL_i, Loose.claim_hush, Loose.cells_hush, Loose.rowL_hush, Loose.val_i, Loose.rowS_i, Loose.val_hush, Loose.rowS_hush, Loose.fn_i, Loose.fn_hush, Nat.reduceBEq, Nat.reduceAdd]
  repeat (go_big_quiet_step (fail))
  refine wpQuiet_nil ⟨fun V m1 => ?_, fun V m1 => ?_⟩
  · simp only [obs_cons, obs_nil, List.getElem?_cons_zero, List.getElem?_cons_succ, fill_nil, fill_claim, fill_cells, fill_rowL, Loose.claim_i, Loose.cells_i, Loose.rowL_i, Act.put, List.setIfInBounds_toArray, List.set_cons_zero, List.set_cons_succ, fill_val, fill_rowS, Loose.val_i, Loose.rowS_i, fill_fn, Loose.fn_i]
    refine ⟨fun _ => ?_, fun hw => ?_, trivial⟩
    · go_wp2_with fail
      ((with_reducible refine (HBY.out _ (below_grow hb m1)).mono ?_); rintro e w' ⟨⟨gN, gT, rfl, hE⟩, hbw⟩)
      go_wp2_with fail
      exact post_fn rfl ⟨gN, gT, rfl, hE⟩ hbw
    · obtain ⟨h3, _⟩ := hw
      obtain ⟨gN, gT, hv, hE⟩ := h3 (by kernel_rfl)
      change V 3 = _ at hv
      rw [hv]
      clear hv h3
      go_wp2_with fail
      ((with_reducible refine (HEV.out gN gT _ (below_grow hb m1) hE).mono ?_); rintro e w' ⟨rfl, hbw⟩)
      obtain ⟨m4, rfl⟩ := grow_mk hbw
      clear hbw
      go_wp2_with fail
      exact post_claim rfl (grow_trans_below _ _)
  · simp only [laws_nil, laws_claim, laws_cells, laws_rowL, laws_val, laws_rowS, laws_fn, dist_nil, dist_claim, dist_cells, dist_rowL, dist_val, dist_rowS, dist_fn, dist1_nil, dist1_claim, dist1_cells, dist1_rowL, dist1_val, dist1_cells_rowL, dist1_rowL_cells, List.drop_succ_cons, List.drop_zero, and_true, fill_nil, fill_claim, fill_cells, fill_rowL, Loose.claim_i, Loose.cells_i, Loose.rowL_i, Act.put, List.setIfInBounds_toArray, List.set_cons_zero, List.set_cons_succ, fill_val, fill_rowS, Loose.val_i, Loose.rowS_i, fill_fn, Loose.fn_i]
    rintro hfn _
    have hv : ∃ gN gT : Nat, V 3 = .func (.func 83) #[] #[.pointer (some ⟨gN, 0, none⟩), .pointer (some ⟨gT, 0, none⟩)] := by
      obtain ⟨gN, gT, hv, _⟩ := hfn
      exact ⟨gN, gT, hv⟩
    obtain ⟨gN1, gT1, hv⟩ := hv
    rw [hv]
    clear hv hfn
    replace hb := below_grow hb m1
    replace hbx := hbx.grow m1
    clear cb0 cb1 cb2 cb3 cb4 cb5 cb6 cb7 cb8 cb9 cb10 cb11 cb12 cb13 fcb0 fcb1 fcb2 fcb3 fcb4 fcb5 fcb6 fcb7 fcb8 fcb9 fcb10 fcb11 fcb12 fcb13 lcb HBY HEV HAW
    generalize grow _ m1 = wb at *
    go_wp2_with fail
    go_loopg [10, 23] ts.length (fun kk s t wr => ∃ (i : Nat) (v : Value), v = s ∧ t = .int .i64 i ∧ Hid (Gl w wr 49 #[.int .i64 c, .slice oa kids.length cap, .int .i64 lk, .int .i64 lt, .string nm, .int .i64 op, .int .i64 k', .int .i64 n, .int .i64 d, .int .i64 u, .slice oa' kids'.length cap', .string wd, .string vl, .bool an] v i fl) ∧ i ≤ ts.length ∧ ts.length - i ≤ kk)
    case atStart => exact ⟨0, .slice none 0 0, rfl, rfl, Lib.hid ⟨hb, hbx, World.ownsRow_nil _ _ _ _⟩, Nat.zero_le _, by omega⟩
    case round =>
      clear hb hbx
      obtain ⟨i, v, rfl, rfl, hg, hle, hk2⟩ := hrel
      by_cases hi : i < ts.length
      · have gi : decide ((i : Int) < ts.length) = true := by simpa using hi
        have hTT := HT.out wr hg.out.below
        have hUU := HU.out wr hg.out.below
        have hr : ts[i]? = some ts[i] := List.getElem?_eq_getElem hi
        have et := hTT.c0 i _ hr
        have at1 := hTT.at_ (by omega)
        have lt1 := hTT.lt (by omega)
        have hfl := HFG.out i _ hr
        subst at1
        clear hr hTT
        generalize ts[i] = t at *
        have hbv := hg.out.below
        have hxv := hg.out.box
        have hov := hg.out.own
        have hin : i + 1 ≤ maxLen := by omega
        have hib : (i + 1) * 8 ≤ 140737488355328 := by omega
        have hvb := hov.lt
        have hne : v.ownBlock ≠ some w.heap.size := fun e => by have := (hvb _ e).1; omega
        have HVR := Lib.hid (show ∀ k, v.ownBlock = some k → w.heap.size ≤ k from fun k e => by have := (hvb _ e).1; omega)
        have hbs := hxv.lt
        clear hvb hg HBY2 HEV2 HK HFG H64
        by_cases t0 : t = 0
        · subst t0
          clear hUU
          have HT1 := Lib.hid (show fl[i]? = some (0) by rw [hfl]; first | done | rfl)
          clear hfl
          go_wp2_with (at_builtin; refine wpList_append_lies _ rfl _ _ _ rfl (w.heap.size + 1) 3 i0 _ 1 8 Try.underlying36 hi0 hz0 hz1 hz2 rfl (by omega) v i ((fl.take i).map (Value.int .i64)) rfl (hov.alloc _) ⟨wr.heap.size, 0, none⟩ 1 1 [.int .i64 0] rfl rfl (World.news_of_block (cs := #[.int .i64 0]) (t := 3) (fr := (0, 0)) (heap_alloc_new wr _)) (by simp [Value.oneCell']) (by omega) hin hib (by simp; omega) (wr.heap.size + 1) (by simp) ?_; intro gg cap2 w1 hown1 hgrow hat hlt; have HR1 := Lib.hid (And.intro (blk_grownBy (hxv.old _) hgrow (Ne.symm hne)) (And.intro (below_grownBy (hbv.alloc hbv.size _) hgrow (Nat.le_trans hbv.size (by simp)) HVR.out) hown1)); clear hown1 hgrow hat)
          go_roundg (ts.length - (i + 1))
          case measure => omega
          case rel =>
            obtain ⟨r1, r2, r3⟩ := HR1.out
            exact ⟨i + 1, _, rfl, by go_num, Lib.hid ⟨r2, r1, by rw [List.take_add_one, HT1.out, List.map_append]; exact r3⟩, hi, by omega⟩
        by_cases t2 : t = 2
        · subst t2
          clear hUU
          have HT1 := Lib.hid (show fl[i]? = some (2) by rw [hfl]; first | done | rfl)
          clear hfl
          go_wp2_with (at_builtin; refine wpList_append_lies _ rfl _ _ _ rfl (w.heap.size + 1) 3 i0 _ 1 8 Try.underlying36 hi0 hz0 hz1 hz2 rfl (by omega) v i ((fl.take i).map (Value.int .i64)) rfl (hov.alloc _) ⟨wr.heap.size, 0, none⟩ 1 1 [.int .i64 2] rfl rfl (World.news_of_block (cs := #[.int .i64 2]) (t := 3) (fr := (0, 0)) (heap_alloc_new wr _)) (by simp [Value.oneCell']) (by omega) hin hib (by simp; omega) (wr.heap.size + 1) (by simp) ?_; intro gg cap2 w1 hown1 hgrow hat hlt; have HR1 := Lib.hid (And.intro (blk_grownBy (hxv.old _) hgrow (Ne.symm hne)) (And.intro (below_grownBy (hbv.alloc hbv.size _) hgrow (Nat.le_trans hbv.size (by simp)) HVR.out) hown1)); clear hown1 hgrow hat)
          go_roundg (ts.length - (i + 1))
          case measure => omega
          case rel =>
            obtain ⟨r1, r2, r3⟩ := HR1.out
            exact ⟨i + 1, _, rfl, by go_num, Lib.hid ⟨r2, r1, by rw [List.take_add_one, HT1.out, List.map_append]; exact r3⟩, hi, by omega⟩
        have g0 : (t == 0) = false := by simpa using t0
        have g2 : (t == 2) = false := by simpa using t2
        have g0' : (t != 0) = true := by simp only [bne, g0]; rfl
        have g2' : (t != 2) = true := by simp only [bne, g2]; rfl
        by_cases hj : i < us.length
        · have gj : decide ((i : Int) < us.length) = true := by simpa using hj
          have hr2 : us[i]? = some us[i] := List.getElem?_eq_getElem hj
          have eu := hUU.c0 i _ hr2
          have at2 := hUU.at_ (by omega)
          have lt2 := hUU.lt (by omega)
          rw [hr2] at hfl
          subst at2
          clear hUU hr2
          generalize us[i] = u at *
          by_cases hu : u.tmod 2 = 0
          · have gu : (u.tmod 2 == 0) = true := by simpa using hu
            have gu' : (u.tmod 2 != 0) = false := by simp only [bne, gu]; rfl
            have hX : fill1 t (some u) = 0 := by unfold fill1; rw [if_neg (by omega)]; simp [hu]
            rw [hX] at hfl
            clear hX hu t0 t2
            have HT1 := Lib.hid (show fl[i]? = some (0) by rw [hfl]; first | done | rfl)
            clear hfl
            go_wp2_with (at_builtin; refine wpList_append_lies _ rfl _ _ _ rfl (w.heap.size + 1) 3 i0 _ 1 8 Try.underlying36 hi0 hz0 hz1 hz2 rfl (by omega) v i ((fl.take i).map (Value.int .i64)) rfl (hov.alloc _) ⟨wr.heap.size, 0, none⟩ 1 1 [.int .i64 0] rfl rfl (World.news_of_block (cs := #[.int .i64 0]) (t := 3) (fr := (0, 0)) (heap_alloc_new wr _)) (by simp [Value.oneCell']) (by omega) hin hib (by simp; omega) (wr.heap.size + 1) (by simp) ?_; intro gg cap2 w1 hown1 hgrow hat hlt; have HR1 := Lib.hid (And.intro (blk_grownBy (hxv.old _) hgrow (Ne.symm hne)) (And.intro (below_grownBy (hbv.alloc hbv.size _) hgrow (Nat.le_trans hbv.size (by simp)) HVR.out) hown1)); clear hown1 hgrow hat)
            go_roundg (ts.length - (i + 1))
            case measure => omega
            case rel =>
              obtain ⟨r1, r2, r3⟩ := HR1.out
              exact ⟨i + 1, _, rfl, by go_num, Lib.hid ⟨r2, r1, by rw [List.take_add_one, HT1.out, List.map_append]; exact r3⟩, hi, by omega⟩
          · have gu : (u.tmod 2 == 0) = false := by simpa using hu
            have gu' : (u.tmod 2 != 0) = true := by simp only [bne, gu]; rfl
            have hX : fill1 t (some u) = 2 := by unfold fill1; rw [if_neg (by omega)]; simp [hu]
            rw [hX] at hfl
            clear hX hu t0 t2
            have HT1 := Lib.hid (show fl[i]? = some (2) by rw [hfl]; first | done | rfl)
            clear hfl
            go_wp2_with (at_builtin; refine wpList_append_lies _ rfl _ _ _ rfl (w.heap.size + 1) 3 i0 _ 1 8 Try.underlying36 hi0 hz0 hz1 hz2 rfl (by omega) v i ((fl.take i).map (Value.int .i64)) rfl (hov.alloc _) ⟨wr.heap.size, 0, none⟩ 1 1 [.int .i64 2] rfl rfl (World.news_of_block (cs := #[.int .i64 2]) (t := 3) (fr := (0, 0)) (heap_alloc_new wr _)) (by simp [Value.oneCell']) (by omega) hin hib (by simp; omega) (wr.heap.size + 1) (by simp) ?_; intro gg cap2 w1 hown1 hgrow hat hlt; have HR1 := Lib.hid (And.intro (blk_grownBy (hxv.old _) hgrow (Ne.symm hne)) (And.intro (below_grownBy (hbv.alloc hbv.size _) hgrow (Nat.le_trans hbv.size (by simp)) HVR.out) hown1)); clear hown1 hgrow hat)
            go_roundg (ts.length - (i + 1))
            case measure => omega
            case rel =>
              obtain ⟨r1, r2, r3⟩ := HR1.out
              exact ⟨i + 1, _, rfl, by go_num, Lib.hid ⟨r2, r1, by rw [List.take_add_one, HT1.out, List.map_append]; exact r3⟩, hi, by omega⟩
        · have gj : decide ((i : Int) < us.length) = false := by simpa using hj
          rw [show us[i]? = none from List.getElem?_eq_none (by omega)] at hfl
          have hX : fill1 t none = 0 := by unfold fill1; rw [if_neg (by omega)]
          rw [hX] at hfl
          clear hX hUU t0 t2
          have HT1 := Lib.hid (show fl[i]? = some (0) by rw [hfl]; first | done | rfl)
          clear hfl
          go_wp2_with (at_builtin; refine wpList_append_lies _ rfl _ _ _ rfl (w.heap.size + 1) 3 i0 _ 1 8 Try.underlying36 hi0 hz0 hz1 hz2 rfl (by omega) v i ((fl.take i).map (Value.int .i64)) rfl (hov.alloc _) ⟨wr.heap.size, 0, none⟩ 1 1 [.int .i64 0] rfl rfl (World.news_of_block (cs := #[.int .i64 0]) (t := 3) (fr := (0, 0)) (heap_alloc_new wr _)) (by simp [Value.oneCell']) (by omega) hin hib (by simp; omega) (wr.heap.size + 1) (by simp) ?_; intro gg cap2 w1 hown1 hgrow hat hlt; have HR1 := Lib.hid (And.intro (blk_grownBy (hxv.old _) hgrow (Ne.symm hne)) (And.intro (below_grownBy (hbv.alloc hbv.size _) hgrow (Nat.le_trans hbv.size (by simp)) HVR.out) hown1)); clear hown1 hgrow hat)
          go_roundg (ts.length - (i + 1))
          case measure => omega
          case rel =>
            obtain ⟨r1, r2, r3⟩ := HR1.out
            exact ⟨i + 1, _, rfl, by go_num, Lib.hid ⟨r2, r1, by rw [List.take_add_one, HT1.out, List.map_append]; exact r3⟩, hi, by omega⟩
      · obtain rfl : i = ts.length := by omega
        have hown := hg.out.own
        rw [List.take_of_length_le (by rw [HFL.out]; omega)] at hown
        obtain ⟨oa2, cap2, g2, rfl, hI⟩ := ints_of_own hown H64.out
        have hb := hg.out.below
        have hbx := hg.out.box
        have cb0 : wr.cell? ⟨w.heap.size, 0, none⟩ = some (.int .i64 c) := (hbx).cell 0
        have fcb0 := (hbx).frozen 0
        have cb1 : wr.cell? ⟨w.heap.size, 1, none⟩ = some (.slice oa kids.length cap) := (hbx).cell 1
        have fcb1 := (hbx).frozen 1
        have cb2 : wr.cell? ⟨w.heap.size, 2, none⟩ = some (.int .i64 lk) := (hbx).cell 2
        have fcb2 := (hbx).frozen 2
        have cb3 : wr.cell? ⟨w.heap.size, 3, none⟩ = some (.int .i64 lt) := (hbx).cell 3
        have fcb3 := (hbx).frozen 3
        have cb4 : wr.cell? ⟨w.heap.size, 4, none⟩ = some (.string nm) := (hbx).cell 4
        have fcb4 := (hbx).frozen 4
        have cb5 : wr.cell? ⟨w.heap.size, 5, none⟩ = some (.int .i64 op) := (hbx).cell 5
        have fcb5 := (hbx).frozen 5
        have cb6 : wr.cell? ⟨w.heap.size, 6, none⟩ = some (.int .i64 k') := (hbx).cell 6
        have fcb6 := (hbx).frozen 6
        have cb7 : wr.cell? ⟨w.heap.size, 7, none⟩ = some (.int .i64 n) := (hbx).cell 7
        have fcb7 := (hbx).frozen 7
        have cb8 : wr.cell? ⟨w.heap.size, 8, none⟩ = some (.int .i64 d) := (hbx).cell 8
        have fcb8 := (hbx).frozen 8
        have cb9 : wr.cell? ⟨w.heap.size, 9, none⟩ = some (.int .i64 u) := (hbx).cell 9
        have fcb9 := (hbx).frozen 9
        have cb10 : wr.cell? ⟨w.heap.size, 10, none⟩ = some (.slice oa' kids'.length cap') := (hbx).cell 10
        have fcb10 := (hbx).frozen 10
        have cb11 : wr.cell? ⟨w.heap.size, 11, none⟩ = some (.string wd) := (hbx).cell 11
        have fcb11 := (hbx).frozen 11
        have cb12 : wr.cell? ⟨w.heap.size, 12, none⟩ = some (.string vl) := (hbx).cell 12
        have fcb12 := (hbx).frozen 12
        have cb13 : wr.cell? ⟨w.heap.size, 13, none⟩ = some (.bool an) := (hbx).cell 13
        have fcb13 := (hbx).frozen 13
        have lcb := (hbx).lt
        clear hown hg H64 HFG HT HU
        have hI2 : Ints wr oa2 ts.length cap2 g2 0 fl := hI
        go_wp2_with fail
        refine wp_region_loose 5 [Loose.fn 3 54 (isBy eoa elen ecap eb eo ns oa2 ts.length cap2 g2 0 fl) (isBy_stays eoa elen ecap eb eo ns oa2 ts.length cap2 g2 0 fl), Loose.claim 4 55 (.int .i64 X2)] (by kernel_rfl) rfl (by kernel_rfl) (by kernel_rfl) (by kernel_rfl) (by kernel_rfl) ?_
        simp only [headL, hushL, List.find?, Loose.claim_i, Loose.cells_i, Loose.rowL_i, Loose.claim_hush, Loose.cells_hush, Loose.rowL_hush, Loose.val_i, Loose.rowS_i, Loose.val_hush, Loose.rowS_hush, Loose.fn_i, Loose.fn_hush, Nat.reduceBEq, Nat.reduceAdd]
        repeat (go_big_quiet_step (fail))
        refine wpQuiet_nil ⟨fun V m1 => ?_, fun V m1 => ?_⟩
        · simp only [obs_cons, obs_nil, List.getElem?_cons_zero, List.getElem?_cons_succ, fill_nil, fill_claim, fill_cells, fill_rowL, Loose.claim_i, Loose.cells_i, Loose.rowL_i, Act.put, List.setIfInBounds_toArray, List.set_cons_zero, List.set_cons_succ, fill_val, fill_rowS, Loose.val_i, Loose.rowS_i, fill_fn, Loose.fn_i]
          refine ⟨fun _ => ?_, fun hw => ?_, trivial⟩
          · go_wp2_with fail
            ((with_reducible refine (HBY2.out _ _ _ _ (below_grow hb m1) (hI.below (grow_below m1))).mono ?_); rintro e w' ⟨⟨gN, gT, rfl, hE⟩, hbw⟩)
            go_wp2_with fail
            exact post_fn rfl ⟨gN, gT, rfl, hE⟩ hbw
          · obtain ⟨h3, _⟩ := hw
            obtain ⟨gN, gT, hv, hE⟩ := h3 (by kernel_rfl)
            change V 3 = _ at hv
            rw [hv]
            clear hv h3
            go_wp2_with fail
            ((with_reducible refine (HEV2.out _ _ _ gN gT _ (below_grow hb m1) hE).mono ?_); rintro e w' ⟨rfl, hbw⟩)
            obtain ⟨m4, rfl⟩ := grow_mk hbw
            clear hbw
            go_wp2_with fail
            exact post_claim rfl (grow_trans_below _ _)
        · simp only [laws_nil, laws_claim, laws_cells, laws_rowL, laws_val, laws_rowS, laws_fn, dist_nil, dist_claim, dist_cells, dist_rowL, dist_val, dist_rowS, dist_fn, dist1_nil, dist1_claim, dist1_cells, dist1_rowL, dist1_val, dist1_cells_rowL, dist1_rowL_cells, List.drop_succ_cons, List.drop_zero, and_true, fill_nil, fill_claim, fill_cells, fill_rowL, Loose.claim_i, Loose.cells_i, Loose.rowL_i, Act.put, List.setIfInBounds_toArray, List.set_cons_zero, List.set_cons_succ, fill_val, fill_rowS, Loose.val_i, Loose.rowS_i, fill_fn, Loose.fn_i]
          rintro hfn _
          have hv : ∃ gN gT : Nat, V 3 = .func (.func 83) #[] #[.pointer (some ⟨gN, 0, none⟩), .pointer (some ⟨gT, 0, none⟩)] := by
            obtain ⟨gN, gT, hv, _⟩ := hfn
            exact ⟨gN, gT, hv⟩
          obtain ⟨gN2, gT2, hv⟩ := hv
          rw [hv]
          clear hv hfn
          replace hb := below_grow hb m1
          clear cb0 cb1 cb2 cb3 cb4 cb5 cb6 cb7 cb8 cb9 cb10 cb11 cb12 cb13 fcb0 fcb1 fcb2 fcb3 fcb4 fcb5 fcb6 fcb7 fcb8 fcb9 fcb10 fcb11 fcb12 fcb13 lcb HBY2 HEV2 hbx hI hI2
          generalize grow _ m1 = wc at *
          have hk := HK.out
          by_cases x1 : X1 = 1
          · subst x1
            clear hk HK
            go_wp2_with fail
            go_ret
            exact ⟨rfl, hb⟩
          · have gx : (X1 == 1) = false := by simpa using x1
            obtain rfl : X1 = X2 := by omega
            clear hk HK x1
            go_wp2_with fail
            go_ret
            exact ⟨ret_bool (by simp), hb⟩

end Go.Proofs.Ytgjhaanpkfheeaa
