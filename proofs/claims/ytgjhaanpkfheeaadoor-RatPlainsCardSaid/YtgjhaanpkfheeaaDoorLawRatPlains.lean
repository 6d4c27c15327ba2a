/- RatPlains: any fraction as a number of a stylesheet, and back. The row's listed variables are tied to the program's text. No condition else. -/
import Derived.Test.YtgjhaanpkfheeaaDoorPlainR
import Derived.Test.YtgjhaanpkfheeaaDoorDecP
import Derived.Test.YtgjhaanpkfheeaaDoorLiftB
import Derived.Test.YtgjhaanpkfheeaaDoorCards
import Derived.Test.YtgjhaanpkfheeaaDoorTie
import Derived.WalkKit
import Derived.ProofKit
import Derived.OpenShut
import Derived.Deep.DeepHandedRow
import Derived.Deep.DeepLaidRun
import Derived.Lib.LaidTab
import Derived.Lib.LaidU8
namespace Go.Proofs.YtgjhaanpkfheeaaDoor
set_option linter.unusedVariables false
set_option linter.unusedSimpArgs false
open Go.ChangeShapes Go.WideShapes Go.ChangeAt Go.RowKit Go.Lib

theorem plain_len {r : Rt} {whole : Bool} {t : List UInt8} (h : plainF r whole = some t) (h1 : -9223372036854775808 ≤ r.1) (h2 : r.1 ≤ 9223372036854775807) (h4 : r.2 ≤ 9223372036854775807) : t.length ≤ 1048576 := by
  unfold plainF at h
  split at h
  · cases h
  · rename_i hm
    split at h
    · obtain rfl := Option.some.inj h
      split
      · exact (by decide : ninesT.length ≤ 1048576)
      · exact (by decide : farT.length ≤ 1048576)
    · rename_i h0
      split at h
      · cases h
      · rename_i num k hr
        split at h
        · cases h
        · obtain rfl := Option.some.inj h
          have hs : 1 ≤ r.2 ∧ r.1.natAbs ≤ 9223372036854775807 := by
            rw [not_or] at hm
            have := hm.1
            simp only [mayB, Bool.not_eq_false, Bool.or_eq_true, Bool.and_eq_true, decide_eq_true_eq] at this
            rcases this with hh | hh
            · exact absurd hh.2 h0
            · have := sure_parts hh
              omega
          obtain ⟨b1, b2⟩ := refL_bound (d := r.2.toNat) (n := r.1.natAbs) (by omega) hs.2 (by omega) hr
          have l1 : (decDigits num).length ≤ 20 := by rw [decDigits_length]; exact nDigits_le20 num (by omega)
          have l2 : (padF (decDigits num) k).length ≤ 100 := by
            unfold padF
            split
            · rw [List.length_append, List.length_replicate]; omega
            · omega
          unfold plainT
          simp only [List.length_append, List.length_take]
          have l3 : ((padF (decDigits num) k).drop ((padF (decDigits num) k).length - k)).length ≤ 100 := by rw [List.length_drop]; omega
          split <;> split <;> (try split) <;> simp only [List.length_append, List.length_cons, List.length_nil] <;> omega

theorem plain_one_five : plainF (3, 2) false = some [49, 46, 53] := by
  have h1 : refL 3 2 0 = some (15, 1) := by rw [refL_two (by decide) (by decide) (by decide), if_neg (by decide), refL_one]
  have h2 : plainF (3, 2) false = outN false false (refL 3 2 0) := plainF_out (r := (3, 2)) (whole := false) (by decide) (by decide)
  rw [h2, h1]
  have e1 : decDigits 15 = [49, 53] := by
    rw [decDigits, dif_neg (by omega)]
    have : decDigits (15 / 10) = [49] := by rw [decDigits, dif_pos (by omega)]; rfl
    rw [this]; rfl
  show (if 18 < (trimR (decDigits 15)).length then none else some (plainT false 15 1 false)) = _
  unfold plainT
  rw [e1]
  decide

set_option maxRecDepth 20000 in
set_option maxHeartbeats 4000000 in
theorem law_ratPlains (r : Rt) (whole : Bool) (w : World) (h64 : Is64 r) (hp : Pow10 w) (hd : Deb w) :
    Calls Tryd.prog 6 #[rv r, .bool whole] w fun e w' => e = .returned (.bool true) ∧ Below w.heap.size w w' := by
  have c1 := fun w hd => plain_any r whole w h64 hd
  have c2 := fun w hp => rplain_any r whole w h64 hp
  have c3 := fun w hd => plain_any (3, 2) false w (by unfold Is64; decide) hd
  rw [plain_one_five] at c3
  simp only [outP] at c3
  obtain ⟨PF, hPF⟩ : ∃ x, plainF r whole = x := ⟨_, rfl⟩
  rw [hPF] at c1 c2
  have HP := Lib.hid hp
  have HD := Lib.hid hd
  have C3 := Lib.hid c3
  clear c3 hp hd
  cases PF with
  | none =>
    simp only [outP] at c1 c2
    have C1 := Lib.hid c1
    have C2 := Lib.hid c2
    clear c1 c2 hPF
    obtain ⟨n, d⟩ := r
    go_enter Tryd.func6, Tryd.ntmps6
    go_wp2_with fail
    ((with_reducible refine (C1.out _ (HD.out.below (below_box _ _))).mono ?_); rintro e w' ⟨rfl, hbw⟩)
    obtain ⟨m1, rfl⟩ := grow_mk hbw
    clear hbw
    have hb : Below w.heap.size w (w.alloc (.cells #[.int .i64 n, .int .i64 d] 23)) := below_box _ _
    have hr : Blk (w.alloc (.cells #[.int .i64 n, .int .i64 d] 23)) w.heap.size 23 #[.int .i64 n, .int .i64 d] := Blk.new _ _ _
    replace hb := below_grow hb m1
    replace hr := hr.grow m1
    generalize grow _ m1 = wa at *
    have ca0 : wa.cell? ⟨w.heap.size, 0, none⟩ = some (.int .i64 n) := (hr).cell 0
    have fca0 := (hr).frozen 0
    have ca1 : wa.cell? ⟨w.heap.size, 1, none⟩ = some (.int .i64 d) := (hr).cell 1
    have fca1 := (hr).frozen 1
    have lca := (hr).lt
    go_wp2_with fail
    ((with_reducible refine (C2.out _ (HP.out.below hb)).mono ?_); rintro e w' ⟨rfl, hbw⟩)
    obtain ⟨m2, rfl⟩ := grow_mk hbw
    clear hbw
    replace hb := below_grow hb m2
    clear ca0 ca1 fca0 fca1 lca
    generalize grow _ m2 = wb at *
    go_wp2_with fail
    ((with_reducible refine (C3.out _ (HD.out.below hb)).mono ?_); rintro e w' ⟨rfl, hbw⟩)
    obtain ⟨m3, rfl⟩ := grow_mk hbw
    clear hbw
    replace hb := below_grow hb m3
    go_wp2_with fail
    go_ret
    exact ⟨rfl, hb⟩
  | some t =>
    have hback := plain_back hPF h64.1 h64.2.1 h64.2.2.2
    have hlen := plain_len hPF h64.1 h64.2.1 h64.2.2.2
    have c4 := fun w => decimal_any t w hlen
    rw [hback] at c4
    simp only [outP, errF] at c1 c2 c4
    have C1 := Lib.hid c1
    have C2 := Lib.hid c2
    have C4 := Lib.hid c4
    clear c1 c2 c4 hPF hback hlen
    obtain ⟨n, d⟩ := r
    go_enter Tryd.func6, Tryd.ntmps6
    go_wp2_with fail
    ((with_reducible refine (C1.out _ (HD.out.below (below_box _ _))).mono ?_); rintro e w' ⟨rfl, hbw⟩)
    obtain ⟨m1, rfl⟩ := grow_mk hbw
    clear hbw
    have hb : Below w.heap.size w (w.alloc (.cells #[.int .i64 n, .int .i64 d] 23)) := below_box _ _
    have hr : Blk (w.alloc (.cells #[.int .i64 n, .int .i64 d] 23)) w.heap.size 23 #[.int .i64 n, .int .i64 d] := Blk.new _ _ _
    replace hb := below_grow hb m1
    replace hr := hr.grow m1
    generalize grow _ m1 = wa at *
    have ca0 : wa.cell? ⟨w.heap.size, 0, none⟩ = some (.int .i64 n) := (hr).cell 0
    have fca0 := (hr).frozen 0
    have ca1 : wa.cell? ⟨w.heap.size, 1, none⟩ = some (.int .i64 d) := (hr).cell 1
    have fca1 := (hr).frozen 1
    have lca := (hr).lt
    go_wp2_with fail
    ((with_reducible refine (C2.out _ (HP.out.below hb)).mono ?_); rintro e w' ⟨rfl, hbw⟩)
    obtain ⟨m2, rfl⟩ := grow_mk hbw
    clear hbw
    replace hb := below_grow hb m2
    replace hr := hr.grow m2
    clear ca0 ca1 fca0 fca1 lca
    generalize grow _ m2 = wb at *
    go_wp2_with fail
    ((with_reducible refine (C4.out _).mono ?_); rintro e w' ⟨rfl, hbw⟩)
    obtain ⟨m4, rfl⟩ := grow_mk hbw
    clear hbw
    replace hb := below_grow hb m4
    replace hr := hr.grow m4
    generalize grow _ m4 = wc at *
    go_upto_region 7 with fail
    replace hb : Below w.heap.size w (wc.alloc (.cells #[.int .i64 n, .int .i64 d] 23)) := below_alloc_self hb _
    have h1 : Blk (wc.alloc (.cells #[.int .i64 n, .int .i64 d] 23)) wc.heap.size 23 #[.int .i64 n, .int .i64 d] := Blk.new _ _ _
    replace hr : Blk (wc.alloc (.cells #[.int .i64 n, .int .i64 d] 23)) w.heap.size 23 #[.int .i64 n, .int .i64 d] := hr.old _
    generalize wc.heap.size = g1 at *
    generalize wc.alloc _ = wd at *
    have cb0 : wd.cell? ⟨w.heap.size, 0, none⟩ = some (.int .i64 n) := (hr).cell 0
    have fcb0 := (hr).frozen 0
    have cb1 : wd.cell? ⟨w.heap.size, 1, none⟩ = some (.int .i64 d) := (hr).cell 1
    have fcb1 := (hr).frozen 1
    have lcb := (hr).lt
    have cc0 : wd.cell? ⟨g1, 0, none⟩ = some (.int .i64 n) := (h1).cell 0
    have fcc0 := (h1).frozen 0
    have cc1 : wd.cell? ⟨g1, 1, none⟩ = some (.int .i64 d) := (h1).cell 1
    have fcc1 := (h1).frozen 1
    have lcc := (h1).lt
    go_wp2_with fail
    go_wp2_with fail
    ((with_reducible refine (C3.out _ (HD.out.below hb)).mono ?_); rintro e w' ⟨rfl, hbw⟩)
    obtain ⟨m3, rfl⟩ := grow_mk hbw
    clear hbw
    replace hb := below_grow hb m3
    go_wp2_with fail
    go_ret
    exact ⟨rfl, hb⟩

theorem gPow : Tryd.prog.globalNamed "internal/strconv.uint64pow10" = some 4 := by kernel_rfl
theorem gPowType : (Tryd.prog.globals[4]?).map (·.type) = some 117 := by kernel_rfl
theorem cellsPow : Tryd.prog.cellsOf 117 = 20 := by kernel_rfl
theorem cellsU64 : Tryd.prog.cellsOf 44 = 1 := by kernel_rfl
theorem powData : (Rows.laid_internal_strconv_uint64pow10 : DataW Unit) = Lib.tabData .u64 Lib.pow10Tab := by kernel_rfl
theorem gDeb : Tryd.prog.globalNamed "math/bits.deBruijn64tab" = some 3 := by kernel_rfl
theorem gDebType : (Tryd.prog.globals[3]?).map (·.type) = some 114 := by kernel_rfl
theorem cellsDeb : Tryd.prog.cellsOf 114 = 64 := by kernel_rfl
theorem cellsU8 : Tryd.prog.cellsOf 5 = 1 := by kernel_rfl
theorem debData : (Rows.laid_math_bits_deBruijn64tab : DataW Unit) = Lib.tabData .u8 (Lib.deBruijn64tab.map fun x : Nat => (x : Int)) := by kernel_rfl

theorem pow_of_laid {W : World} (h : laidMetH Tryd.prog Rows.ratPlainsRow.laid W) : Pow10 W := by
  have h' : laidMet Tryd.prog [("math/bits.deBruijn32tab", Rows.laid_math_bits_deBruijn32tab), ("math/bits.deBruijn64tab", Rows.laid_math_bits_deBruijn64tab), ("internal/strconv.uint64pow10", Rows.laid_internal_strconv_uint64pow10), ("unicode/utf8.acceptRanges", Rows.laid_unicode_utf8_acceptRanges), ("unicode/utf8.first", Rows.laid_unicode_utf8_first)] W := h
  obtain ⟨g, t, cs, fuel, p, e1, e2, e3, e4⟩ := Lib.laidMet.reads h' (List.mem_cons_of_mem _ (List.mem_cons_of_mem _ (List.mem_cons_self ..)))
  obtain rfl := Option.some.inj (gPow.symm.trans e1)
  obtain rfl := Option.some.inj (gPowType.symm.trans e2)
  rw [powData] at e4
  have e5 := Lib.cells_of_tab Tryd.underlying117 Tryd.underlying44 cellsU64 cellsPow e4
  unfold Pow10 Lib.TabIs
  rw [e3, ← e5]
theorem deb_of_laid {W : World} (h : laidMetH Tryd.prog Rows.ratPlainsRow.laid W) : Deb W := by
  have h' : laidMet Tryd.prog [("math/bits.deBruijn32tab", Rows.laid_math_bits_deBruijn32tab), ("math/bits.deBruijn64tab", Rows.laid_math_bits_deBruijn64tab), ("internal/strconv.uint64pow10", Rows.laid_internal_strconv_uint64pow10), ("unicode/utf8.acceptRanges", Rows.laid_unicode_utf8_acceptRanges), ("unicode/utf8.first", Rows.laid_unicode_utf8_first)] W := h
  obtain ⟨g, t, cs, fuel, p, e1, e2, e3, e4⟩ := Lib.laidMet.reads h' (List.mem_cons_of_mem _ (List.mem_cons_self ..))
  obtain rfl := Option.some.inj (gDeb.symm.trans e1)
  obtain rfl := Option.some.inj (gDebType.symm.trans e2)
  rw [debData] at e4
  have e5 := Lib.cells_of_tab Tryd.underlying114 Tryd.underlying5 cellsU8 cellsDeb e4
  have ht : Lib.TabIs Tryd.prog W "math/bits.deBruijn64tab" .u8 (Lib.deBruijn64tab.map fun x : Nat => (x : Int)) := by
    unfold Lib.TabIs
    rw [e3, ← e5]
  intro j hj
  have := ht.cell gDeb j (by rw [List.length_map]; exact hj)
  simp only [List.getD_eq_getElem?_getD, List.getElem?_map, List.getElem?_eq_getElem hj, Option.map_some, Option.getD_some] at this ⊢
  exact this

set_option maxRecDepth 100000 in
theorem ratPlains_contract (H : Type) (enc : TypeId × Value → H) (W : World) (base : Nat) (args : Array Value) (ds gs : List (DataW H)) (before : List MemPlace)
    (hval0 : ∀ (j : Nat) t v, Tryd.f6.params[j]? = some t → args[j]? = some v → Value.okWide Tryd.prog W .any base t v)
    (hW : DataW.Whole enc Tryd.prog Tryd.f6.params.toList Rows.ratPlainsSpec.vars false W args.toList ds gs before) (hL : laidMetH Tryd.prog Rows.ratPlainsRow.laid W) :
    Calls Tryd.prog 6 args W fun e W' => ∃ v, e = .returned v ∧ Rows.ratPlainsSpec.post enc Tryd.prog Tryd.f6 false true false false W args v W' := by
  have hval : ∀ (j : Nat) t v, Tryd.f6.params[j]? = some t → args[j]? = some v → Value.okWide Tryd.prog W .any base t v := hval0
  have hW' := hW
  obtain ⟨p, q, hA0, hV, rfl, hfz, hnd⟩ := hW
  have hA : DataW.TrodAll enc Tryd.prog W 0 (fun _ => true) true Tryd.f6.params.toList args.toList ds p := hA0
  rw [Tryd.params6] at hA hval
  obtain ⟨v0, v1, d0, d1, p0, p1, rfl, rfl, rfl, h0, h1⟩ := trodAll_two hA
  obtain ⟨rfl, rfl⟩ := trodVars_none hV
  obtain ⟨a, rfl, rfl, rfl, wa⟩ := open_rat (hval 0 23 v0 rfl rfl) h0
  obtain ⟨b, rfl⟩ : ∃ b, v1 = .bool b := okWide_bool Tryd.underlying4 (hval 1 4 v1 rfl rfl)
  refine (law_ratPlains a b W wa (pow_of_laid hL) (deb_of_laid hL)).mono fun e W' ⟨he, hb⟩ => ?_
  subst he
  exact ⟨_, rfl, law_post Tryd.laidOut Tryd.underlying4 rfl (by kernel_rfl) rfl (by rw [Tryd.params6]; decide +kernel) hW' hb⟩

def litP : DataW Unit → Value
  | .lit (.int k n) => .int k n
  | _ => undef
def tabP : DataW Unit → Array Value
  | .agg l => (l.map litP).toArray
  | _ => #[]
def putP (d : DataW Unit) : Obj → Obj
  | .cells _ t frozen => .cells (tabP d) t frozen
  | o => o

def rowP : DataW Unit → List Value
  | .agg l => l.map litP
  | d => [litP d]
def allP : DataW Unit → Array Value
  | .agg l => (l.flatMap rowP).toArray
  | _ => #[]
def layP (d : DataW Unit) : Obj → Obj
  | .cells _ t frozen => .cells (allP d) t frozen
  | o => o
noncomputable def laidWorldP (os : Os) : World :=
  { World.holding Tryd.prog os ⟨#[], #[], []⟩ with heap := (((((World.holding Tryd.prog os ⟨#[], #[], []⟩).heap.modify 8 (layP Rows.laid_math_bits_deBruijn32tab)).modify 3 (layP Rows.laid_math_bits_deBruijn64tab)).modify 4 (layP Rows.laid_internal_strconv_uint64pow10)).modify 6 (layP Rows.laid_unicode_utf8_acceptRanges)).modify 5 (layP Rows.laid_unicode_utf8_first) }
def plainArgs : Array Value := #[.agg #[.int .i64 0, .int .i64 0], .bool false]
theorem laid_metP (os : Os) : laidMet Tryd.prog Rows.ratPlainsRow.laid ((laidWorldP os).forCall (fun _ _ => 0) ⟨#[], plainArgs, []⟩).memory :=
  laidMet_of_run3 8 (by kernel_rfl) (by kernel_rfl) (by kernel_rfl)
theorem readsP (os : Os) {H : Type} (enc : TypeId × Value → H) : ∃ ds places, DataW.whole enc Tryd.prog ((laidWorldP os).forCall (fun _ _ => 0) ⟨#[], plainArgs, []⟩).memory Tryd.f6.params.toList Rows.ratPlainsSpec.vars false plainArgs.toList 8 = some (ds, [], places) :=
  ⟨[.agg [.lit (.int .i64 0), .lit (.int .i64 0)], .lit (.bool false)], [], by kernel_rfl⟩

set_option maxRecDepth 100000 in
theorem ratPlains_lifted (os : Os) (started : os.Started) (H : Type) (enc : TypeId × Value → H) (F : Stop.Interp) :
    ReturnsInHanded {} Tryd.checked os 6 .any ((OpenSpec.ofChange Rows.ratPlainsSpec).preRow enc Tryd.prog Tryd.f6 Rows.ratPlainsRow.domain false Rows.ratPlainsRow.laid) (((OpenSpec.ofChange Rows.ratPlainsSpec).at F).post enc Tryd.prog Tryd.f6 false true false false) := by
  obtain ⟨ds, places, hx⟩ := readsP os enc
  refine returnsInHanded_of_row (C := Tryd.checked) (s := OpenSpec.ofChange Rows.ratPlainsSpec) Tryd.own started (by kernel_rfl) Tryd.func6
    (witness_row_at (enc := enc) (C := Tryd.checked) false (laidWorldP os) plainArgs rfl (by kernel_rfl) (by kernel_rfl) (by kernel_rfl)
      (OpenSpec.preRow_of_cond 8 hx (by kernel_rfl) (fun k hk => by cases hk) (by kernel_rfl) (laid_metP os))) ?_
  intro W base args ds gs before hval hW _ _ _ hL _ _
  exact ratPlains_contract H enc W base args ds gs before hval hW hL

theorem ratPlains_said : Rows.RatPlainsSaid :=
  OpenClaim.holds_of_cond 6 Tryd.f6 rfl rfl rfl rfl rfl rfl rfl ⟨rfl, rfl, rfl, rfl, rfl⟩ rfl rfl rfl rfl rfl (by kernel_rfl) Tryd.func6 (by kernel_rfl)
    (of_decide_eq_true (by kernel_rfl)) (by unfold Func.isWrapper; first | (rw [if_pos (by decide +kernel)]; kernel_rfl) | (rw [if_neg (by decide +kernel)]; exact ⟨rfl, rfl⟩))
    (fun os started H enc _ F => by rw [OpenClaim.pre_eq_preRow]; exact ratPlains_lifted os started H enc F)

theorem ratPlains_plain (f : FuncId) (fn : Func) (hf : Tryd.pinned.checked.prog.funcNamed "jalousie/jalousielaw1.RatPlains" = some f) (hfn : Tryd.pinned.checked.prog.funcs[f]? = some fn) :
    false = Tryd.pinned.checked.prog.looks [] ∧ ∀ (j : Nat) t, fn.params[j]? = some t → Tryd.pinned.checked.prog.wantsStandIn t = false := by
  obtain rfl : f = 6 := Option.some.inj ((show Tryd.prog.funcNamed "jalousie/jalousielaw1.RatPlains" = some 6 by kernel_rfl).symm.trans hf) |>.symm
  obtain rfl : fn = Tryd.f6 := (Option.some.inj (Tryd.func6.symm.trans hfn)).symm
  refine ⟨by kernel_rfl, fun j t ht => ?_⟩
  rw [Tryd.params6] at ht
  have : t = 23 ∨ t = 4 := by simpa using Array.mem_of_getElem? ht
  rcases this with rfl | rfl
  · exact (show Tryd.prog.wantsStandIn 23 = false by kernel_rfl)
  · exact (show Tryd.prog.wantsStandIn 4 = false by kernel_rfl)

theorem ratPlains_card : Rows.RatPlainsCardSaid :=
  Claim7.holds_tied_plain_at .later [] _ _ _ _ ratPlains_said (fun _ h => by cases h) (by kernel_rfl) (fun _ h => by cases h) ratPlains_row_tie rfl ⟨rfl, rfl⟩ (by kernel_rfl) rfl ratPlains_plain (by kernel_rfl)
#print axioms ratPlains_card

end Go.Proofs.YtgjhaanpkfheeaaDoor
