/- RatTexts: fractions as texts, and back; any text. The row's listed variables are tied to the program's text. No condition else. -/
import Derived.Test.YtgjhaanpkfheeaaDoorTextS
import Derived.Test.YtgjhaanpkfheeaaDoorTextF
import Derived.Test.YtgjhaanpkfheeaaDoorMulR
import Derived.Test.YtgjhaanpkfheeaaDoorLiftB
import Derived.Test.YtgjhaanpkfheeaaDoorCards
import Derived.Test.YtgjhaanpkfheeaaDoorTie
import Derived.WalkKit
import Derived.ProofKit
import Derived.OpenShut
import Derived.Deep.DeepHandedRow
import Derived.Deep.DeepLaidRun
import Derived.Lib.LaidTab
import Derived.Lib.LaidU8
namespace Go.Proofs.YtgjhaanpkfheeaaDoor
set_option linter.unusedVariables false
set_option linter.unusedSimpArgs false
open Go.ChangeShapes Go.WideShapes Go.ChangeAt Go.RowKit

theorem text_len {r : Rt} (h64 : Is64 r) : (textF r).length ≤ 9223372036854775807 := by
  unfold textF
  cases h : sureB r with
  | false => exact (by decide : overT.length ≤ 9223372036854775807)
  | true =>
    obtain ⟨h1, h2⟩ := sure_parts h
    obtain ⟨b1, b2, b3, b4⟩ := h64
    have l1 := dec_len (u := r.1.natAbs) (by omega)
    have l2 := dec_len (u := r.2.toNat) (by omega)
    rw [if_pos rfl, List.length_append]
    split <;> split <;> simp only [List.length_cons, List.length_nil] <;> omega

theorem parse_clean (r : Rt) (h64 : Is64 r) : parseP (textF r) = (cleanR r, true) := by
  rw [parse_text r h64]
  rfl
theorem text_half : textF (1, 2) = [49, 47, 50] := by
  have h : sureB (1, 2) = true := by decide
  unfold textF
  rw [if_pos h, if_neg (by decide), if_pos (by decide)]
  have e1 : Lib.decDigits 1 = [49] := by rw [Lib.decDigits, dif_pos (by omega)]; rfl
  have e2 : Lib.decDigits 2 = [50] := by rw [Lib.decDigits, dif_pos (by omega)]; rfl
  show Lib.decDigits 1 ++ 47 :: Lib.decDigits 2 = _
  rw [e1, e2]
  rfl

set_option maxRecDepth 20000 in
set_option maxHeartbeats 4000000 in
theorem law_ratTexts (r : Rt) (l : List UInt8) (w : World) (h64 : Is64 r) (hl : l.length ≤ 9223372036854775807) (hp : Pow10 w) :
    Calls Tryd.prog 4 #[rv r, .string ⟨l.toArray⟩] w fun e w' => e = .returned (.bool true) ∧ Below w.heap.size w w' := by
  have c1 := fun w => text_any r w h64
  have c2 := fun w hp => rtext_any r w h64 hp
  have c3 := fun w => parse_any (textF r) w (text_len h64)
  have c4 := fun w => parse_any l w hl
  have c5 := fun w => rparse_any l w hl
  have c6 := fun w => clean_any r w h64
  have c7 := fun w => text_any (1, 2) w (by unfold Is64; decide)
  rw [parse_clean r h64] at c3
  rw [← parse_same l] at c5
  rw [text_half] at c7
  simp only [show errF true = 0 from rfl] at c3
  generalize textF r = T at *
  generalize cleanR r = K at *
  generalize parseP l = Q at *
  obtain ⟨⟨u, v⟩, b⟩ := Q
  simp only at c4 c5
  generalize errF b = E at *
  obtain ⟨x, y⟩ := K
  obtain ⟨n, d⟩ := r
  have C1 := Lib.hid c1; have C2 := Lib.hid c2; have C3 := Lib.hid c3; have C4 := Lib.hid c4; have C5 := Lib.hid c5; have C6 := Lib.hid c6; have C7 := Lib.hid c7
  have HP := Lib.hid hp
  clear c1 c2 c3 c4 c5 c6 c7 hp h64 hl
  go_enter Tryd.func4, Tryd.ntmps4
  go_wp2_with fail
  ((with_reducible refine (C1.out _).mono ?_); rintro e w' ⟨rfl, hbw⟩)
  obtain ⟨m1, rfl⟩ := grow_mk hbw
  clear hbw
  have hb : Below w.heap.size w (w.alloc (.cells #[.int .i64 n, .int .i64 d] 23)) := below_box _ _
  have hr : Blk (w.alloc (.cells #[.int .i64 n, .int .i64 d] 23)) w.heap.size 23 #[.int .i64 n, .int .i64 d] := Blk.new _ _ _
  replace hb := below_grow hb m1
  replace hr := hr.grow m1
  generalize grow _ m1 = wa at *
  have ca0 : wa.cell? ⟨w.heap.size, 0, none⟩ = some (.int .i64 n) := (hr).cell 0
  have fca0 := (hr).frozen 0
  have ca1 : wa.cell? ⟨w.heap.size, 1, none⟩ = some (.int .i64 d) := (hr).cell 1
  have fca1 := (hr).frozen 1
  have lca := (hr).lt
  go_wp2_with fail
  ((with_reducible refine (C2.out _ (HP.out.below hb)).mono ?_); rintro e w' ⟨rfl, hbw⟩)
  obtain ⟨m2, rfl⟩ := grow_mk hbw
  clear hbw
  replace hb := below_grow hb m2
  replace hr := hr.grow m2
  clear ca0 ca1 fca0 fca1 lca
  generalize grow _ m2 = wb at *
  go_wp2_with fail
  ((with_reducible refine (C3.out _).mono ?_); rintro e w' ⟨rfl, hbw⟩)
  obtain ⟨m3, rfl⟩ := grow_mk hbw
  clear hbw
  replace hb := below_grow hb m3
  replace hr := hr.grow m3
  generalize grow _ m3 = wc at *
  have h1 := Blk.new wc 23 #[.int .i64 x, .int .i64 y]
  have n1 : w.heap.size < wc.heap.size := hr.lt
  replace hb := below_alloc_self hb (.cells #[.int .i64 x, .int .i64 y] 23)
  replace hr := hr.old (.cells #[.int .i64 x, .int .i64 y] 23)
  go_wp2_with fail
  ((with_reducible refine (C4.out _).mono ?_); rintro e w' ⟨rfl, hbw⟩)
  obtain ⟨m4, rfl⟩ := grow_mk hbw
  clear hbw
  generalize wc.heap.size = g1 at *
  replace hb := below_grow hb m4
  replace hr := hr.grow m4
  replace h1 := h1.grow m4
  generalize grow _ m4 = wd at *
  have h2 := Blk.new wd 23 #[.int .i64 u, .int .i64 v]
  have n2 : g1 < wd.heap.size := h1.lt
  replace hb := below_alloc_self hb (.cells #[.int .i64 u, .int .i64 v] 23)
  replace hr := hr.old (.cells #[.int .i64 u, .int .i64 v] 23)
  replace h1 := h1.old (.cells #[.int .i64 u, .int .i64 v] 23)
  go_wp2_with fail
  ((with_reducible refine (C5.out _).mono ?_); rintro e w' ⟨rfl, hbw⟩)
  obtain ⟨m5, rfl⟩ := grow_mk hbw
  clear hbw
  generalize wd.heap.size = g2 at *
  replace hb := below_grow hb m5
  replace hr := hr.grow m5
  replace h1 := h1.grow m5
  replace h2 := h2.grow m5
  generalize grow _ m5 = we at *
  have h3 := Blk.new we 23 #[.int .i64 u, .int .i64 v]
  have n3 : g2 < we.heap.size := h2.lt
  replace hb := below_alloc_self hb (.cells #[.int .i64 u, .int .i64 v] 23)
  replace hr := hr.old (.cells #[.int .i64 u, .int .i64 v] 23)
  replace h1 := h1.old (.cells #[.int .i64 u, .int .i64 v] 23)
  replace h2 := h2.old (.cells #[.int .i64 u, .int .i64 v] 23)
  go_upto_region 7 with fail
  generalize we.heap.size = g3 at *
  generalize we.alloc _ = wf at *
  have cr0 : wf.cell? ⟨w.heap.size, 0, none⟩ = some (.int .i64 n) := (hr).cell 0
  have fcr0 := (hr).frozen 0
  have cr1 : wf.cell? ⟨w.heap.size, 1, none⟩ = some (.int .i64 d) := (hr).cell 1
  have fcr1 := (hr).frozen 1
  have lcr := (hr).lt
  have c10 : wf.cell? ⟨g1, 0, none⟩ = some (.int .i64 x) := (h1).cell 0
  have fc10 := (h1).frozen 0
  have c11 : wf.cell? ⟨g1, 1, none⟩ = some (.int .i64 y) := (h1).cell 1
  have fc11 := (h1).frozen 1
  have lc1 := (h1).lt
  have c20 : wf.cell? ⟨g2, 0, none⟩ = some (.int .i64 u) := (h2).cell 0
  have fc20 := (h2).frozen 0
  have c21 : wf.cell? ⟨g2, 1, none⟩ = some (.int .i64 v) := (h2).cell 1
  have fc21 := (h2).frozen 1
  have lc2 := (h2).lt
  have c30 : wf.cell? ⟨g3, 0, none⟩ = some (.int .i64 u) := (h3).cell 0
  have fc30 := (h3).frozen 0
  have c31 : wf.cell? ⟨g3, 1, none⟩ = some (.int .i64 v) := (h3).cell 1
  have fc31 := (h3).frozen 1
  have lc3 := (h3).lt
  go_wp2_with fail
  refine wp_region_grow (by kernel_rfl) (by kernel_rfl) ?_
  repeat (go_big_quiet_step ((first | (go_at_call 18; with_reducible exact calls_grow (C6.out _)) | (go_at_call 14; with_reducible exact calls_grow (C7.out _)))))
  refine wpQuiet_nil ?_
  rintro _ ⟨m, rfl⟩
  go_wp2_with fail
  go_ret
  exact ⟨ret_bool (by simp), below_grow hb m⟩

theorem gPow : Tryd.prog.globalNamed "internal/strconv.uint64pow10" = some 4 := by kernel_rfl
theorem gPowType : (Tryd.prog.globals[4]?).map (·.type) = some 117 := by kernel_rfl
theorem cellsPow : Tryd.prog.cellsOf 117 = 20 := by kernel_rfl
theorem cellsU64 : Tryd.prog.cellsOf 44 = 1 := by kernel_rfl
theorem powData : (Rows.laid_internal_strconv_uint64pow10 : DataW Unit) = Lib.tabData .u64 Lib.pow10Tab := by kernel_rfl

theorem pow_of_laid {W : World} (h : laidMetH Tryd.prog Rows.ratTextsRow.laid W) : Pow10 W := by
  have h' : laidMet Tryd.prog [("math/bits.deBruijn32tab", Rows.laid_math_bits_deBruijn32tab), ("math/bits.deBruijn64tab", Rows.laid_math_bits_deBruijn64tab), ("internal/strconv.uint64pow10", Rows.laid_internal_strconv_uint64pow10)] W := h
  obtain ⟨g, t, cs, fuel, p, e1, e2, e3, e4⟩ := Lib.laidMet.reads h' (List.mem_cons_of_mem _ (List.mem_cons_of_mem _ (List.mem_singleton.2 rfl)))
  obtain rfl := Option.some.inj (gPow.symm.trans e1)
  obtain rfl := Option.some.inj (gPowType.symm.trans e2)
  rw [powData] at e4
  have e5 := Lib.cells_of_tab Tryd.underlying117 Tryd.underlying44 cellsU64 cellsPow e4
  unfold Pow10 Lib.TabIs
  rw [e3, ← e5]

set_option maxRecDepth 100000 in
theorem ratTexts_contract (H : Type) (enc : TypeId × Value → H) (W : World) (base : Nat) (args : Array Value) (ds gs : List (DataW H)) (before : List MemPlace)
    (hval0 : ∀ (j : Nat) t v, Tryd.f4.params[j]? = some t → args[j]? = some v → Value.okWide Tryd.prog W .any base t v)
    (hW : DataW.Whole enc Tryd.prog Tryd.f4.params.toList Rows.ratTextsSpec.vars false W args.toList ds gs before) (hL : laidMetH Tryd.prog Rows.ratTextsRow.laid W) :
    Calls Tryd.prog 4 args W fun e W' => ∃ v, e = .returned v ∧ Rows.ratTextsSpec.post enc Tryd.prog Tryd.f4 false true false false W args v W' := by
  have hval : ∀ (j : Nat) t v, Tryd.f4.params[j]? = some t → args[j]? = some v → Value.okWide Tryd.prog W .any base t v := hval0
  have hW' := hW
  obtain ⟨p, q, hA0, hV, rfl, hfz, hnd⟩ := hW
  have hA : DataW.TrodAll enc Tryd.prog W 0 (fun _ => true) true Tryd.f4.params.toList args.toList ds p := hA0
  rw [Tryd.params4] at hA hval
  obtain ⟨v0, v1, d0, d1, p0, p1, rfl, rfl, rfl, h0, h1⟩ := trodAll_two hA
  obtain ⟨rfl, rfl⟩ := trodVars_none hV
  obtain ⟨a, rfl, rfl, rfl, wa⟩ := open_rat (hval 0 23 v0 rfl rfl) h0
  obtain ⟨s, rfl, rfl, rfl, ws⟩ := Go.ChangeMaps.open_string Tryd.underlying9 (hval 1 9 v1 rfl rfl) h1
  obtain ⟨⟨l⟩⟩ := s
  have hl : l.length ≤ 9223372036854775807 := ws
  refine (law_ratTexts a l W wa hl (pow_of_laid hL)).mono fun e W' ⟨he, hb⟩ => ?_
  subst he
  exact ⟨_, rfl, law_post Tryd.laidOut Tryd.underlying4 rfl (by kernel_rfl) rfl (by rw [Tryd.params4]; decide +kernel) hW' hb⟩

def litVal : DataW Unit → Value
  | .lit (.int k n) => .int k n
  | _ => undef
def tabCells : DataW Unit → Array Value
  | .agg l => (l.map litVal).toArray
  | _ => #[]
def putTab (d : DataW Unit) : Obj → Obj
  | .cells _ t frozen => .cells (tabCells d) t frozen
  | o => o
noncomputable def laidWorldT (os : Os) : World :=
  { World.holding Tryd.prog os ⟨#[], #[], []⟩ with heap := (((World.holding Tryd.prog os ⟨#[], #[], []⟩).heap.modify 8 (putTab Rows.laid_math_bits_deBruijn32tab)).modify 3 (putTab Rows.laid_math_bits_deBruijn64tab)).modify 4 (putTab Rows.laid_internal_strconv_uint64pow10) }
def textArgs : Array Value := #[.agg #[.int .i64 0, .int .i64 0], .string ⟨#[]⟩]
theorem laid_metT (os : Os) : laidMet Tryd.prog Rows.ratTextsRow.laid ((laidWorldT os).forCall (fun _ _ => 0) ⟨#[], textArgs, []⟩).memory :=
  laidMet_of_run3 8 (by kernel_rfl) (by kernel_rfl) (by kernel_rfl)
theorem readsT (os : Os) {H : Type} (enc : TypeId × Value → H) : ∃ ds places, DataW.whole enc Tryd.prog ((laidWorldT os).forCall (fun _ _ => 0) ⟨#[], textArgs, []⟩).memory Tryd.f4.params.toList Rows.ratTextsSpec.vars false textArgs.toList 8 = some (ds, [], places) :=
  ⟨[.agg [.lit (.int .i64 0), .lit (.int .i64 0)], .lit (.string [])], [], by kernel_rfl⟩

set_option maxRecDepth 100000 in
theorem ratTexts_lifted (os : Os) (started : os.Started) (H : Type) (enc : TypeId × Value → H) (F : Stop.Interp) :
    ReturnsInHanded {} Tryd.checked os 4 .any ((OpenSpec.ofChange Rows.ratTextsSpec).preRow enc Tryd.prog Tryd.f4 Rows.ratTextsRow.domain false Rows.ratTextsRow.laid) (((OpenSpec.ofChange Rows.ratTextsSpec).at F).post enc Tryd.prog Tryd.f4 false true false false) := by
  obtain ⟨ds, places, hx⟩ := readsT os enc
  refine returnsInHanded_of_row (C := Tryd.checked) (s := OpenSpec.ofChange Rows.ratTextsSpec) Tryd.own started (by kernel_rfl) Tryd.func4
    (witness_row_at (enc := enc) (C := Tryd.checked) false (laidWorldT os) textArgs rfl (by kernel_rfl) (by kernel_rfl) (by kernel_rfl)
      (OpenSpec.preRow_of_cond 8 hx (by kernel_rfl) (fun k hk => by cases hk) (by kernel_rfl) (laid_metT os))) ?_
  intro W base args ds gs before hval hW _ _ _ hL _ _
  exact ratTexts_contract H enc W base args ds gs before hval hW hL

theorem ratTexts_said : Rows.RatTextsSaid :=
  OpenClaim.holds_of_cond 4 Tryd.f4 rfl rfl rfl rfl rfl rfl rfl ⟨rfl, rfl, rfl, rfl, rfl⟩ rfl rfl rfl rfl rfl (by kernel_rfl) Tryd.func4 (by kernel_rfl)
    (of_decide_eq_true (by kernel_rfl)) (by unfold Func.isWrapper; first | (rw [if_pos (by decide +kernel)]; kernel_rfl) | (rw [if_neg (by decide +kernel)]; exact ⟨rfl, rfl⟩))
    (fun os started H enc _ F => by rw [OpenClaim.pre_eq_preRow]; exact ratTexts_lifted os started H enc F)

theorem ratTexts_plain (f : FuncId) (fn : Func) (hf : Tryd.pinned.checked.prog.funcNamed "jalousie/jalousielaw1.RatTexts" = some f) (hfn : Tryd.pinned.checked.prog.funcs[f]? = some fn) :
    false = Tryd.pinned.checked.prog.looks [] ∧ ∀ (j : Nat) t, fn.params[j]? = some t → Tryd.pinned.checked.prog.wantsStandIn t = false := by
  obtain rfl : f = 4 := Option.some.inj ((show Tryd.prog.funcNamed "jalousie/jalousielaw1.RatTexts" = some 4 by kernel_rfl).symm.trans hf) |>.symm
  obtain rfl : fn = Tryd.f4 := (Option.some.inj (Tryd.func4.symm.trans hfn)).symm
  refine ⟨by kernel_rfl, fun j t ht => ?_⟩
  rw [Tryd.params4] at ht
  have : t = 23 ∨ t = 9 := by simpa using Array.mem_of_getElem? ht
  rcases this with rfl | rfl
  · exact (show Tryd.prog.wantsStandIn 23 = false by kernel_rfl)
  · exact (show Tryd.prog.wantsStandIn 9 = false by kernel_rfl)

theorem ratTexts_card : Rows.RatTextsCardSaid :=
  Claim7.holds_tied_plain_at .later [] _ _ _ _ ratTexts_said (fun _ h => by cases h) (by kernel_rfl) (fun _ h => by cases h) ratTexts_row_tie rfl ⟨rfl, rfl⟩ (by kernel_rfl) rfl ratTexts_plain (by kernel_rfl)
#print axioms ratTexts_card

end Go.Proofs.YtgjhaanpkfheeaaDoor
