/- Of my texts: RefD, RefE, RefF, WalkReads. -/
import Derived.Test.YtplnhjmomomphaaDoorM21
import Derived.Test.YtplnhjmomomphaaDoorM24
import Derived.Test.YtplnhjmomomphaaDoorM28
import Derived.Test.YtplnhjmomomphaaDoorM29
namespace Go.Proofs.YtplnhjmomomphaaDoor
set_option linter.unusedVariables false
set_option linter.unusedSimpArgs false
open Go.RowKit

theorem cutG_skip {read : List Vt → Option Et} {cut : Nat → Bool} {l : List Vt} {turn : List UInt8} {k : Int} {n i s : Nat} {o : Bool} (h : i < l.length ∧ cut i = false) : cutG read cut l turn k (n + 1) i s o = cutG read cut l turn k n (i + 1) s o := by rw [cutG, if_pos h]
theorem cutG_none {read : List Vt → Option Et} {cut : Nat → Bool} {l : List Vt} {turn : List UInt8} {k : Int} {n i s : Nat} {o : Bool} (h : ¬ (i < l.length ∧ cut i = false)) (hr : read ((l.take i).drop s) = none) : cutG read cut l turn k (n + 1) i s o = none := by rw [cutG, if_neg h, hr]
theorem cutG_piece {read : List Vt → Option Et} {cut : Nat → Bool} {l : List Vt} {turn : List UInt8} {k : Int} {n i s : Nat} {o : Bool} {e : Et} (h : ¬ (i < l.length ∧ cut i = false)) (hr : read ((l.take i).drop s) = some e) :
    cutG read cut l turn k (n + 1) i s o = (cutG read cut l turn k n (i + 1) (i + 1) ((l[i]?.map textV).getD [] == turn)).map ((if o then .mk k 0 0 0 [e] else e) :: ·) := by rw [cutG, if_neg h, hr]

/-- an expression is put behind the others into a row of one's own, which no variable holds -/
theorem row_put {w7 w8 w9 : World} {B3 gg cap3 h2 : Nat} {D : List Ex} {x2 : Ex} {v : Value} {O : Obj} {xs : List Value}
    (hg8 : Below w7.heap.size w7 w8) (hv7 : ∀ b, v.ownBlock = some b → w7.heap.size ≤ b ∧ b < B3) (h73 : w7.heap.size ≤ B3) (h38 : B3 ≤ w8.heap.size)
    (hS : ∃ hh, Safe (fun b => b < w7.heap.size ∨ v.ownBlock = some b) w8 fun w => ∀ x ∈ D, ExIn w hh x)
    (hx : Safe (· < B3) w8 fun w => ExIn w h2 x2)
    (ho : w9.ownsRow w7.heap.size 27 5 (.slice (some ⟨gg, 0, none⟩) (D.length + 1) cap3) (D.length + 1) (D.flatMap xcells ++ xs)) (hxs : xcells x2 = xs)
    (hg : (w8.alloc O).grownBy w9 v.ownBlock) (hat : v.ownBlock = some gg ∨ gg = (w8.alloc O).heap.size) :
    Below w7.heap.size w7 w9 ∧
    w9.ownsRow w7.heap.size 27 5 (.slice (some ⟨gg, 0, none⟩) (D.length + 1) cap3) (D ++ [x2]).length ((D ++ [x2]).flatMap xcells) ∧
    (∃ hh, Safe (fun b => b < w7.heap.size ∨ (Value.slice (some ⟨gg, 0, none⟩) (D.length + 1) cap3).ownBlock = some b) w9 fun w => ∀ x ∈ D ++ [x2], ExIn w hh x) := by
  have hs8 : (w8.alloc O).heap.size = w8.heap.size + 1 := by simp
  have hG : w8.grownBy w9 v.ownBlock := grownBy_trans (grownBy_of_below (below_box w8 O) _) hg
  have h78 := hg8.size
  refine ⟨below_far hg8 hG (fun k e => (hv7 k e).1), ?_, ?_⟩
  · rw [List.length_append, List.flatMap_append, List.flatMap_singleton, hxs]
    exact ho
  · obtain ⟨hh, hS⟩ := hS
    refine ⟨max hh h2, ?_⟩
    have hA : ∀ b, (b < w7.heap.size ∨ (Value.slice (some ⟨gg, 0, none⟩) (D.length + 1) cap3).ownBlock = some b) → (b < w7.heap.size ∨ v.ownBlock = some b) ∨ w8.heap.size ≤ b := by
      intro b hb
      rcases hb with hb | hb
      · exact Or.inl (Or.inl hb)
      · have e : gg = b := Option.some.inj hb
        subst e
        rcases hat with h | h
        · exact Or.inl (Or.inr h)
        · exact Or.inr (by omega)
    have s1 := ((hS.wide (A' := fun b => (b < w7.heap.size ∨ v.ownBlock = some b) ∨ w8.heap.size ≤ b) fun b h => h).grown hG (fun k e _ => Or.inl (Or.inr e))).anti fun b hb _ => hA b hb
    have s2 := ((hx.wide (A' := fun b => b < B3 ∨ w8.heap.size ≤ b) fun b h => h).grown hG (fun k e _ => Or.inl (hv7 k e).2)).anti (A' := fun b => b < w7.heap.size ∨ (Value.slice (some ⟨gg, 0, none⟩) (D.length + 1) cap3).ownBlock = some b) fun b hb _ => by
      rcases hA b hb with (hb | hb) | hb
      · exact Or.inl (by omega)
      · exact Or.inl (hv7 b hb).2
      · exact Or.inr hb
    exact (s1.and s2).mono fun w ⟨a, c⟩ x hm => by
      rcases List.mem_append.1 hm with hm | hm
      · exact exin_up _ _ (Nat.le_max_left _ _) (a x hm)
      · obtain rfl := List.mem_singleton.1 hm
        exact exin_up _ _ (Nat.le_max_right _ _) c
/-- a piece behind the turning sign: it goes into an expression of its own -/
theorem turned9 {w7 : World} {g4 B3 h2 : Nat} {kk : Int} {x2 : Ex} {V : Array Value} {cs : List Value} (hV : xcells x2 = V.toList) (hsz : V.size = 5) (h4 : g4 < w7.heap.size) (h37 : B3 ≤ w7.heap.size) (hkk : I64 kk)
    (hx : Safe (fun b => b < B3 ∨ b = g4) w7 fun w => ExIn w h2 x2) :
    Safe (fun b => b < B3 ∨ b = g4) ((puts w7 g4 0 cs).alloc (.cells V 27)) fun w => ExIn w (h2 + 1) (.mk kk 0 0 0 (some ⟨w7.heap.size, 0, none⟩) w7.heap.size 0 1 [x2]) := by
  have hpu := grownBy_puts cs w7 g4 0
  have hs8 := puts_size cs w7 g4 0
  have hs7 : ((puts w7 g4 0 cs).alloc (.cells V 27)).heap.size = w7.heap.size + 1 := by simp [hs8]
  have B8 : Blk ((puts w7 g4 0 cs).alloc (.cells V 27)) (puts w7 g4 0 cs).heap.size _ _ := Blk.new (puts w7 g4 0 cs) 27 V
  rw [hs8] at B8
  obtain ⟨oa, cap, g, hv, hsl, _⟩ := sl_of_own (owns_fresh (base := 0) (n := 1) (size := 5) B8 (Nat.zero_le _) hsz (by decide))
  injection hv with e1 _ e3
  subst e1 e3
  have e4 := (hsl.lies (by omega)).1
  injection e4 with e4
  injection e4 with e4
  subst e4
  have e5 : V.toList = [x2].flatMap xcells := by rw [List.flatMap_singleton, hV]
  rw [e5] at hsl
  refine ExIn.made hkk (by unfold Is64; decide) (i64_small _ (by decide)) (by simp) hsl (fun _ hb => ?_) ?_
  · omega
  · have s1 := (hx.grown hpu (fun k e _ => Or.inr (Option.some.inj e).symm)).alloc (.cells V 27)
    exact s1.mono fun w hw x hm => by
        obtain rfl := List.mem_singleton.1 hm
        exact hw
theorem xcells_of {x : Ex} {a0 a1 a2 a3 a4 : Value} (h : (.agg #[a0, a1, a2, a3, a4] : Value) = xv x) : xcells x = [a0, a1, a2, a3, a4] := by
  unfold xv at h
  injection h with h
  have := congrArg Array.toList h
  simpa using this.symm

/-- the reference's products -/
def RProdAt (h : Nat) : Prop := ∀ (l : List Vl) (oa : Option Addr) (cap b o : Nat) (w : World), VsIn w h oa cap b o l →
  Calls Tryd.prog 66 #[.slice oa l.length cap] w fun e w' => retE (· < w.heap.size) (prodR (opF sumR h) (l.map Vl.c)) e w' ∧ Below w.heap.size w w'

set_option maxRecDepth 20000 in
set_option maxHeartbeats 8000000 in
theorem rprod_step (h : Nat) (hX : ROneAt h) (hSum : ∀ h', h = h' + 1 → RSumAt h') : RProdAt h := by
  intro l oa cap b o w hs
  obtain ⟨Y, hY⟩ : ∃ Y, prodR (opF sumR h) (l.map Vl.c) = Y := ⟨_, rfl⟩
  rw [hY]
  have hb0 := below_box w (.cells #[.int .i64 0, .int .i64 0, .int .i64 0, .int .i64 0, .slice none 0 0] 27)
  have h2 := Blk.new w 27 #[.int .i64 0, .int .i64 0, .int .i64 0, .int .i64 0, .slice none 0 0]
  have hs7 := hs.below hb0
  have H27 := Lib.hid h2
  have HB7 := Lib.hid hb0
  have HX := Lib.hid hX
  have HSUM := Lib.hid hSum
  clear hs hb0 h2 hX hSum
  go_enter Tryd.func66, Tryd.ntmps66
  go_upto_region 1 with fail
  obtain ⟨g2, hg2⟩ : ∃ g2, w.heap.size = g2 := ⟨_, rfl⟩
  have HG := Lib.hid hg2
  rw [hg2] at H27
  simp only [hg2]
  clear hg2
  generalize w.alloc _ = w7 at *

  have HFIN := Lib.hid (show ∀ (v : Value) (ok : Bool) (wx we : World), ok = Y.isSome → isE5 v → (∀ E, Y = some E → isEx (· < w7.heap.size) E v wx) → Below w7.heap.size w7 wx → wx.grownBy we (some g2) → retE (· < w.heap.size) Y (.returned (.tuple #[v, .bool ok])) we ∧ Below w.heap.size w we from
    fun v ok wx we h1 h2 h3 h4 h5 => ⟨⟨v, ok, rfl, h1, h2, fun E hE => ((h3 E hE).grown h5 (fun k e _ => by injection e with e; have := H27.out.lt; omega)).anti fun b hb => Or.inl (by have := HB7.out.size; have hb : b < w.heap.size := hb; show b < w7.heap.size; omega)⟩,
      below_far (below_far HB7.out (grownBy_of_below h4 none) (fun _ e => by cases e)) h5 (fun k e => by injection e with e; have := HG.out; omega)⟩)
  obtain ⟨XL, hXL⟩ : ∃ XL, l.map Vl.c = XL := ⟨_, rfl⟩
  obtain ⟨N, hN⟩ : ∃ N, l.length = N := ⟨_, rfl⟩
  have hNX : XL.length = N := by rw [← hXL, List.length_map, hN]
  have hsm := hs7.small
  have hcm := hs7.sl.max
  have hcl := hs7.sl.le
  unfold maxLen at hcm
  rw [hN] at hsm hcl
  have HS := Lib.hid hs7
  have HN := Lib.hid (And.intro hN (And.intro hXL hNX))
  rw [hXL] at hY
  have hY1 : Y = (cutG (oneR (opF sumR h)) (divR XL) XL slashS 5 (N + 1) 0 0 false).map fun r => single 4 (([] : List Ex).map Ex.c ++ r) := by
    rw [← hY]
    unfold prodR
    rw [hNX]
    rfl
  have HY1 := Lib.hid hY1
  have HT := Lib.hid (fun (a c : Nat) (hac : a ≤ c) (hc : c ≤ l.length) (wx : World) (hb : Below w7.heap.size w7 wx) =>
    (show (∃ (oa' : Option Addr) (c' : Nat), oa' = (if cap = a then oa else oa.map (·.add (a * 7))) ∧ c' = cap - a ∧ Calls Tryd.prog 27 #[.slice oa' (c - a) c'] wx fun e w' => (∃ v, e = .returned v ∧ isVs (w7.heap.size ≤ ·) h (trimV ((XL.take c).drop a)) v w') ∧ Below wx.heap.size wx w') from by
      obtain ⟨oa', ho⟩ : ∃ oa', oa' = (if cap = a then oa else oa.map (·.add (a * 7))) := ⟨_, rfl⟩
      obtain ⟨c', hc'⟩ : ∃ c', c' = cap - a := ⟨_, rfl⟩
      refine ⟨oa', c', ho, hc', ?_⟩
      subst ho hc'
      generalize hoa' : (if cap = a then oa else oa.map (·.add (a * 7))) = oa'
      obtain ⟨c', hc'⟩ : ∃ c', cap - a = c' := ⟨_, rfl⟩
      have hlen : ((l.take c).drop a).length = c - a := by rw [List.length_drop, List.length_take]; omega
      have hmap : ((l.take c).drop a).map Vl.c = (XL.take c).drop a := by rw [List.map_drop, List.map_take, hXL]
      rw [← hlen, ← hmap, hc']
      subst hoa' hc'
      exact trim5_safe h ((l.take c).drop a) _ _ b (o + a * 7) wx ((hs7.safe.below hb).mono fun _ hz => hz.part hac hc)))
  simp only [hN]
  clear hs7 hN hXL hNX hY hY1
  go_wp2_with fail
  go_loopg [4, 5, 6, 7] (N + 1) (fun q s4 s5 s6 s7 wr => ∃ (i a n : Nat) (ov : Bool) (D : List Ex) (v : Value), v = s4 ∧ s5 = .int .i64 (a : Int) ∧ s6 = .bool ov ∧ s7 = .int .i64 (i : Int) ∧ a ≤ i ∧ i ≤ N + 1 ∧ D.length ≤ i ∧ n + i = N + 1 ∧ Hid (Below w7.heap.size w7 wr) ∧
    Hid (wr.ownsRow w7.heap.size 27 5 v D.length (D.flatMap xcells)) ∧ Hid (∃ hh, Safe (fun b => b < w7.heap.size ∨ v.ownBlock = some b) wr fun w => ∀ x ∈ D, ExIn w hh x) ∧
    Hid (Y = (cutG (oneR (opF sumR h)) (divR XL) XL slashS 5 n i a ov).map fun r => single 4 (D.map Ex.c ++ r)) ∧ N + 1 - i ≤ q)
  case atStart => exact ⟨0, 0, N + 1, false, [], _, rfl, rfl, rfl, rfl, Nat.le_refl _, Nat.zero_le _, Nat.le_refl _, rfl, Lib.hid (Below.refl _ _), Lib.hid (World.ownsRow_nil _ _ _ _), Lib.hid ⟨0, fun _ _ _ _ hx => by cases hx⟩, HY1, by omega⟩
  case round =>
    obtain ⟨i, a, n, ov, D, v, rfl, rfl, rfl, rfl, hai, hiN, hDi, hni, hb, hO, hS, hY, hq⟩ := hrel
    have h7r := hb.out.size
    by_cases hi : i ≤ N
    · have gi : decide ((i : Int) ≤ (N : Int)) = true := by simpa using hi
      have gin : decide (i ≤ N) = true := by simpa using hi
      obtain ⟨n, rfl⟩ : ∃ n', n = n' + 1 := ⟨n - 1, by omega⟩
      have HW := Lib.hid (HS.out.below hb.out)
      have HVB := Lib.hid (show ∀ b, v.ownBlock = some b → w7.heap.size ≤ b ∧ b < wr.heap.size from fun b e => hO.out.lt b e)
      go_upto_region 6 with fail
      obtain ⟨ct, hct⟩ : ∃ ct, divR XL i = ct := ⟨_, rfl⟩
      have HCT := Lib.hid hct
      obtain ⟨cb, hcb⟩ : ∃ cb, (decide (i < N) && !ct) = cb := ⟨_, rfl⟩
      have HCB := Lib.hid hcb
      clear hcb hct
      go_cut [28] from 17 to 28 (fun s wx => s = .bool cb ∧ Hid (Below wr.heap.size wr wx))
      case first =>
        by_cases h1 : i < N
        · have gj : decide ((i : Int) < (N : Int)) = true := by simpa using h1
          have gjn : decide (i < N) = true := by simpa using h1
          have hil : i < l.length := by rw [HN.out.1]; exact h1
          have hli : l[i]? = some l[i] := List.getElem?_eq_getElem hil
          obtain ⟨rfl, hbl⟩ := HW.out.sl.lies (by omega)
          obtain ⟨x, hx⟩ : ∃ x, l[i] = x := ⟨_, rfl⟩
          rw [hx] at hli
          have hxl : XL[i]? = some x.c := by rw [← HN.out.2.1, List.getElem?_map, hli]; rfl
          have hvs := HW.out
          obtain ⟨t, koa, kb, ko, kcap, kids⟩ := x
          obtain ⟨K, hK⟩ : ∃ K, kids.length = K := ⟨_, rfl⟩
          have f0 := hvs.cell hli (j := 0) rfl
          have f1 := hvs.cell hli (j := 1) rfl
          have f2 := hvs.cell hli (j := 2) rfl
          have f3 := hvs.cell hli (j := 3) rfl
          have f4 := hvs.cell hli (j := 4) rfl
          have f5 := hvs.cell hli (j := 5) rfl
          have f6 := hvs.cell hli (j := 6) rfl
          rw [Nat.add_zero] at f0
          rw [hK] at f6
          obtain ⟨tk, tt, ⟨tn, td⟩, ti, tid⟩ := t
          rw [Vl.c_mk] at hxl
          have hsb : (tk == 9 && (tt == [42] || tt == [47])) = ct := by rw [← HCT.out, divR, hxl]; rfl
          have hsg := fun w => r11sign_any tk tn td tt [42] [47] ti tid koa K kcap w
          simp only [hsb] at hsg
          have HSG := Lib.hid hsg
          clear hvs hli hil hx hxl hK hsb hsg
          go_wp2_with fail
          ((with_reducible refine (HSG.out _).mono ?_); rintro e w5 ⟨rfl, hb5⟩)
          have HB5 := Lib.hid hb5
          clear hb5
          go_wp2_with fail
          go_meet
          exact ⟨by rw [← HCB.out]; simp [h1], HB5⟩
        · have gj : decide ((i : Int) < (N : Int)) = false := by simpa using h1
          have gjn : decide (i < N) = false := by simpa using h1
          go_wp2_with fail
          go_meet
          exact ⟨by rw [← HCB.out]; simp [h1], Lib.hid (Below.refl _ _)⟩
      obtain ⟨rfl, HWC⟩ := hcut
      obtain hcb | hcb : cb = true ∨ cb = false := by cases cb <;> simp
      · subst hcb
        have hic : i < N ∧ ct = false := by have := HCB.out; simpa using this
        have hyn := hY.out
        rw [cutG_skip (show i < XL.length ∧ (divR XL) i = false by rw [HN.out.2.2, HCT.out]; exact hic)] at hyn
        have HYN := Lib.hid hyn
        obtain ⟨hi2, rfl⟩ := hic
        clear hyn
        go_wp2_with fail
        go_roundg (N + 1 - (i + 1))
        case measure => omega
        case rel => exact ⟨i + 1, a, n, ov, D, v, rfl, rfl, rfl, by go_num, by omega, by omega, by omega, by omega, Lib.hid (below_far hb.out (grownBy_of_below HWC.out none) (fun _ e => by cases e)), Lib.hid (owns_belowW hO.out HWC.out), Lib.hid (by obtain ⟨hh, hs⟩ := hS.out; exact ⟨hh, hs.below HWC.out⟩), HYN, Nat.le_refl _⟩
      subst hcb
      have hic : ¬ (i < N ∧ ct = false) := by
        rintro ⟨h1, rfl⟩
        have := HCB.out
        simp [h1] at this
      have HNC := Lib.hid (show ¬ (i < XL.length ∧ (divR XL) i = false) by rw [HN.out.2.2, HCT.out]; exact hic)
      have HWAYS := Lib.hid (show i < N → ct = true from fun h => by
        rcases Bool.eq_false_or_eq_true ct with e | e
        · exact e
        · exact absurd ⟨h, e⟩ hic)
      clear hic HCB
      obtain ⟨r, hr⟩ : ∃ r, (oneR (opF sumR h)) ((XL.take i).drop a) = r := ⟨_, rfl⟩
      have HR := Lib.hid hr
      have hrc := HWC.out.size
      clear hr
      go_upto_region 7 with fail
      go_cut [8] from 29 to 33 (fun s wx => Hid (isVs (w7.heap.size ≤ ·) h (trimV ((XL.take i).drop a)) s wx) ∧ Hid (Below wr.heap.size wr wx))
      case first =>
        obtain ⟨oa', c', hoa', hc', hcall⟩ := HT.out a i hai (by rw [HN.out.1]; exact hi) wc (below_far hb.out (grownBy_of_below HWC.out none) (fun _ e => by cases e))
        have iai : (a : Int) ≤ (i : Int) := by omega
        have iic : (i : Int) ≤ (cap : Int) := by omega
        obtain ⟨M, hM⟩ : ∃ M, i - a = M := ⟨_, rfl⟩
        rw [hM] at hcall
        go_wp2_with fail
        all_goals
          first
            | (have e : cap = a := by assumption
               rw [if_pos e] at hoa'
               have hc0 : c' = 0 := by omega
               rw [hoa', hc0] at hcall
               subst e)
            | (have e : ¬ cap = a := by assumption
               rw [if_neg e] at hoa'
               rw [hoa', hc'] at hcall)
          ((with_reducible refine hcall.mono ?_); rintro e w2 ⟨⟨s, rfl, hvs⟩, hbb⟩)
          obtain ⟨soa, sn, scap, rfl⟩ := hvs.slice
          have HV2 := Lib.hid hvs
          have HB2 := Lib.hid (below_far HWC.out (grownBy_of_below hbb none) (fun _ e => by cases e))
          clear hvs hbb hcall hoa' hc'
          go_wp2_with fail
          go_meet
          exact ⟨HV2, HB2⟩
      obtain ⟨hv8, HW8⟩ := hcut
      obtain ⟨oa2, cap2, b2, o2, l2, rfl, hc2, hs2⟩ := hv8.out
      have hcm2 := hs2.here.sl.max
      have hcl2 := hs2.here.sl.le
      unfold maxLen at hcm2
      have hr8 := HW8.out.size
      clear HWC hrc hv8
      by_cases hl1 : l2.length ≠ 1
      · have hYr : r = none := by
          rw [← HR.out, oneR, ← hc2]
          match l2, hl1 with
          | [], _ => rfl
          | [x], h => exact absurd rfl h
          | x :: y :: t, _ => rfl
        have hYk : Y = none := by rw [hY.out, cutG_none HNC.out (HR.out.trans hYr)]; rfl
        have h2p := H27.out.below (below_far hb.out (grownBy_of_below HW8.out none) (fun _ e => by cases e)) H27.out.lt
        have ca0 : wc.cell? ⟨g2, 0, none⟩ = some (.int .i64 0) := (h2p).cell 0
        have fca0 := (h2p).frozen 0
        have ca1 : wc.cell? ⟨g2, 1, none⟩ = some (.int .i64 0) := (h2p).cell 1
        have fca1 := (h2p).frozen 1
        have ca2 : wc.cell? ⟨g2, 2, none⟩ = some (.int .i64 0) := (h2p).cell 2
        have fca2 := (h2p).frozen 2
        have ca3 : wc.cell? ⟨g2, 3, none⟩ = some (.int .i64 0) := (h2p).cell 3
        have fca3 := (h2p).frozen 3
        have ca4 : wc.cell? ⟨g2, 4, none⟩ = some (.slice none 0 0) := (h2p).cell 4
        have fca4 := (h2p).frozen 4
        have lca := (h2p).lt
        have H2P := Lib.hid h2p
        obtain ⟨L2, hL2⟩ : ∃ L2, l2.length = L2 := ⟨_, rfl⟩
        rw [hL2] at hl1 hcl2
        simp only [hL2]
        have q1 : ((L2 : Int) != 1) = true := by simp; omega
        clear h2p hYr hs2 hc2 hL2
        go_wp2_with fail
        have hputs := (H2P.out).put5 (.int .i64 0) (.int .i64 0) (.int .i64 0) (.int .i64 0) (.slice none 0 0)
        refine bodyPost_ret (v := .tuple #[.agg #[.int .i64 0, .int .i64 0, .int .i64 0, .int .i64 0, .slice none 0 0], .bool false]) ?_ rfl ?_
        · refine ret_ex2 Tryd.results66 ?_ ?_ hputs rfl
          all_goals rfl
        · exact HFIN.out _ _ wc _ (by rw [hYk]; rfl) ⟨_, _, _, _, _, _, _, rfl⟩ (fun E hE => by rw [hYk] at hE; cases hE) (below_far hb.out (grownBy_of_below HW8.out none) (fun _ e => by cases e)) (grownBy_puts [.int .i64 0, .int .i64 0, .int .i64 0, .int .i64 0, .slice none 0 0] wc g2 0)
      obtain ⟨x, rfl⟩ := List.length_eq_one_iff.1 (Decidable.not_not.1 hl1)
      obtain ⟨rfl, hbl⟩ := hs2.here.sl.lies (by simp)
      have hli : [x][0]? = some x := rfl
      have hvs := hs2.here
      have hvx := hs2.here.each 0 x hli
      have hxp := HX.out x wc hvx
      have hRf : opF sumR h x.c = r := by rw [← HR.out, oneR, ← hc2]; rfl
      obtain ⟨h', hh⟩ : ∃ h', h = h' + 1 := by
        cases h with
        | zero => exact hvx.elim
        | succ h' => exact ⟨h', rfl⟩
      obtain ⟨t, koa, kb, ko, kcap, kids⟩ := x
      obtain ⟨K, hK⟩ : ∃ K, kids.length = K := ⟨_, rfl⟩
      have f0 := hvs.cell hli (j := 0) rfl
      have f1 := hvs.cell hli (j := 1) rfl
      have f2 := hvs.cell hli (j := 2) rfl
      have f3 := hvs.cell hli (j := 3) rfl
      have f4 := hvs.cell hli (j := 4) rfl
      have f5 := hvs.cell hli (j := 5) rfl
      have f6 := hvs.cell hli (j := 6) rfl
      rw [hK] at f6
      simp only [Nat.zero_mul, Nat.add_zero] at f0 f1 f2 f3 f4 f5 f6
      obtain ⟨tk, tt, ⟨tn, td⟩, ti, tid⟩ := t
      have hkids : VsIn wc h' koa kcap kb ko kids := by subst hh; exact hvx.kids
      have hr21 : tk = 21 → sumR (opF sumR h') (kids.map Vl.c) = r := fun e => by subst hh; rw [← hRf, Vl.c_mk, opF, if_pos e]
      obtain ⟨r1, hr1⟩ : ∃ r1, exF sumR h (Vl.mk ⟨tk, tt, (tn, td), ti, tid⟩ koa kb ko kcap kids).c = r1 := ⟨_, rfl⟩
      have hrn : tk ≠ 21 → r1 = r := fun e => by subst hh; rw [← hRf, ← hr1, Vl.c_mk, opF, if_neg e, exF]
      have hvv : vv (Vl.mk ⟨tk, tt, (tn, td), ti, tid⟩ koa kb ko kcap kids) = .agg #[.int .i64 tk, .string ⟨tt.toArray⟩, .int .i64 tn, .int .i64 td, .bool ti, .bool tid, .slice koa K kcap] := by rw [← hK]; rfl
      rw [hvv, hr1] at hxp
      have hks := fun wx (hb : Below wc.heap.size wc wx) => HSUM.out h' hh kids koa kcap kb ko wx (hkids.below hb)
      simp only [hK] at hks
      have HXP := Lib.hid hxp
      have HKS := Lib.hid hks
      have HRN := Lib.hid hrn
      have HR21 := Lib.hid hr21
      simp only [List.length_singleton] at hcl2 ⊢
      clear hvv hxp hks hK hvs hli hs2 hc2 hRf hr1 hrn hr21 hkids hvx hl1 hh
      go_wp2_with fail
      ((with_reducible refine HXP.out.mono ?_); rintro e w4 ⟨⟨ev, ok, rfl, hok, h5, hE⟩, hb4⟩)
      obtain ⟨vk, vn, vd, vu, voa, vL, vc, rfl⟩ := h5
      have HE4 := Lib.hid (And.intro hok hE)
      have hw4 := hb4.size
      have HB4 := Lib.hid hb4
      clear hok hE hb4
      go_upto_region 11 with fail
      have h95 := Blk.new w4 27 #[.int .i64 vk, .int .i64 vn, .int .i64 vd, .int .i64 vu, .slice voa vL vc]
      have hB5 := HB4.out.alloc HB4.out.size (.cells #[.int .i64 vk, .int .i64 vn, .int .i64 vd, .int .i64 vu, .slice voa vL vc] 27)
      have HE5 := Lib.hid (show ok = r1.isSome ∧ ∀ E, r1 = some E → isEx (fun b => b < wr.heap.size ∨ b = w4.heap.size) E (.agg #[.int .i64 vk, .int .i64 vn, .int .i64 vd, .int .i64 vu, .slice voa vL vc]) (w4.alloc (.cells #[.int .i64 vk, .int .i64 vn, .int .i64 vd, .int .i64 vu, .slice voa vL vc] 27)) from
        ⟨HE4.out.1, fun E hE => ((HE4.out.2 E hE).anti fun b hb => by
          rcases hb with hb | hb
          · exact Or.inl (show b < wc.heap.size by omega)
          · exact Or.inr (by omega)).below (below_box w4 _)⟩)
      have g0 := (hB5.cell (p := ⟨b2, o2, none⟩) hbl).trans f0
      have g6 := (hB5.cell (p := ⟨b2, o2 + 6, none⟩) hbl).trans f6
      have hw45 : w4.heap.size < (w4.alloc (.cells #[.int .i64 vk, .int .i64 vn, .int .i64 vd, .int .i64 vu, .slice voa vL vc] 27)).heap.size := by simp
      have HB5 := Lib.hid hB5
      have H95 := Lib.hid h95
      clear f0 f1 f2 f3 f4 f5 f6 h95 hB5 HE4 HB4 HXP
      have hg9 : wr.heap.size ≤ w4.heap.size := by omega
      generalize w4.heap.size = g9 at *
      generalize w4.alloc _ = w5 at *
      go_upto_if 50 with fail
      go_cut [10] from 51 to 58 (fun s wx => ∃ (ok : Bool) (vk vn vd vu : Int) (voa : Option Addr) (vL vc : Nat), s = .bool ok ∧ Hid (Below wr.heap.size wr wx) ∧ Hid (Blk wx g9 27 #[.int .i64 vk, .int .i64 vn, .int .i64 vd, .int .i64 vu, .slice voa vL vc]) ∧ Hid (ok = r.isSome ∧ ∀ E, r = some E → isEx (fun b => b < wr.heap.size ∨ b = g9) E (.agg #[.int .i64 vk, .int .i64 vn, .int .i64 vd, .int .i64 vu, .slice voa vL vc]) wx))
      case first =>
        by_cases hk : tk = 21
        · subst hk
          have hkc := HKS.out w5 HB5.out
          rw [HR21.out rfl] at hkc
          have HKC := Lib.hid hkc
          clear hkc
          go_wp2_with fail
          ((with_reducible refine HKC.out.mono ?_); rintro e w6 ⟨⟨ev, ok2, rfl, hok2, h5, hE2⟩, hb6⟩)
          obtain ⟨yk, yn, yd, yu, yoa, yL, yc, rfl⟩ := h5
          have h96 := H95.out.below hb6 H95.out.lt
          have hw56 := hb6.size
          have hw8 := HB5.out.size
          have hpu := grownBy_puts [.int .i64 yk, .int .i64 yn, .int .i64 yd, .int .i64 yu, .slice yoa yL yc] w6 g9 0
          have hbm := below_far (below_far (below_far HW8.out (grownBy_of_below HB5.out none) (fun _ e => by cases e)) (grownBy_of_below hb6 none) (fun _ e => by cases e)) hpu (fun k e => by have e := Option.some.inj e; omega)
          have hex : ∀ E, r = some E → isEx (fun b => b < wr.heap.size ∨ b = g9) E (.agg #[.int .i64 yk, .int .i64 yn, .int .i64 yd, .int .i64 yu, .slice yoa yL yc]) (puts w6 g9 0 [.int .i64 yk, .int .i64 yn, .int .i64 yd, .int .i64 yu, .slice yoa yL yc]) := fun E hE => ((hE2 E hE).grown hpu (fun k e _ => by have e := Option.some.inj e; omega)).anti fun b hb => Or.inl (by rcases hb with hb | hb <;> omega)
          simp only [puts, Nat.zero_add, Nat.reduceAdd] at hbm hex
          have HBM := Lib.hid hbm
          have HEX := Lib.hid (And.intro hok2 hex)
          have H9M := Lib.hid (h96.put5 (.int .i64 yk) (.int .i64 yn) (.int .i64 yd) (.int .i64 yu) (.slice yoa yL yc))
          have cg0 : w6.cell? ⟨g9, 0, none⟩ = some (.int .i64 vk) := (h96).cell 0
          have fcg0 := (h96).frozen 0
          have cg1 : w6.cell? ⟨g9, 1, none⟩ = some (.int .i64 vn) := (h96).cell 1
          have fcg1 := (h96).frozen 1
          have cg2 : w6.cell? ⟨g9, 2, none⟩ = some (.int .i64 vd) := (h96).cell 2
          have fcg2 := (h96).frozen 2
          have cg3 : w6.cell? ⟨g9, 3, none⟩ = some (.int .i64 vu) := (h96).cell 3
          have fcg3 := (h96).frozen 3
          have cg4 : w6.cell? ⟨g9, 4, none⟩ = some (.slice voa vL vc) := (h96).cell 4
          have fcg4 := (h96).frozen 4
          have lcg := (h96).lt
          clear hok2 hE2 hb6 hpu hbm hex h96
          go_wp2_with fail
          go_meet
          exact ⟨ok2, yk, yn, yd, yu, yoa, yL, yc, rfl, HBM, H9M, HEX⟩
        · have gk : (tk == (21 : Int)) = false := by simpa using hk
          have HEX := Lib.hid (HE5.out)
          rw [HRN.out hk] at HEX
          go_wp2_with fail
          go_meet
          exact ⟨ok, vk, vn, vd, vu, voa, vL, vc, rfl, Lib.hid (below_far HW8.out (grownBy_of_below HB5.out none) (fun _ e => by cases e)), H95, HEX⟩
      clear HE5 H95 HB5 HKS HRN HR21 g0 g6 hw45 HW8 hr8
      obtain ⟨ok, vk, vn, vd, vu, voa, vL, vc, rfl, HWP, H9, HE⟩ := hcut
      generalize wc = wp at *
      have h2p := H27.out.below (below_far hb.out (grownBy_of_below HWP.out none) (fun _ e => by cases e)) H27.out.lt
      have ca0 : wp.cell? ⟨g2, 0, none⟩ = some (.int .i64 0) := (h2p).cell 0
      have fca0 := (h2p).frozen 0
      have ca1 : wp.cell? ⟨g2, 1, none⟩ = some (.int .i64 0) := (h2p).cell 1
      have fca1 := (h2p).frozen 1
      have ca2 : wp.cell? ⟨g2, 2, none⟩ = some (.int .i64 0) := (h2p).cell 2
      have fca2 := (h2p).frozen 2
      have ca3 : wp.cell? ⟨g2, 3, none⟩ = some (.int .i64 0) := (h2p).cell 3
      have fca3 := (h2p).frozen 3
      have ca4 : wp.cell? ⟨g2, 4, none⟩ = some (.slice none 0 0) := (h2p).cell 4
      have fca4 := (h2p).frozen 4
      have lca := (h2p).lt
      have H2P := Lib.hid h2p
      clear h2p
      cases r with
      | none =>
        obtain rfl : ok = false := HE.out.1
        have hYk : Y = none := by rw [hY.out, cutG_none HNC.out HR.out]; rfl
        go_wp2_with fail
        have hputs := (H2P.out).put5 (.int .i64 0) (.int .i64 0) (.int .i64 0) (.int .i64 0) (.slice none 0 0)
        refine bodyPost_ret (v := .tuple #[.agg #[.int .i64 0, .int .i64 0, .int .i64 0, .int .i64 0, .slice none 0 0], .bool false]) ?_ rfl ?_
        · refine ret_ex2 Tryd.results66 ?_ ?_ hputs rfl
          all_goals rfl
        · exact HFIN.out _ _ wp _ (by rw [hYk]; rfl) ⟨_, _, _, _, _, _, _, rfl⟩ (fun E hE => by rw [hYk] at hE; cases hE) (below_far hb.out (grownBy_of_below HWP.out none) (fun _ e => by cases e)) (grownBy_puts [.int .i64 0, .int .i64 0, .int .i64 0, .int .i64 0, .slice none 0 0] wp g2 0)
      | some E =>
        obtain rfl : ok = true := HE.out.1
        obtain ⟨E9, hE9⟩ : ∃ E9, (if ov = true then Et.mk 5 0 0 0 [E] else E) = E9 := ⟨_, rfl⟩
        have HYP := Lib.hid (show Y = (cutG (oneR (opF sumR h)) (divR XL) XL slashS 5 n (i + 1) (i + 1) ((XL[i]?.map textV).getD [] == slashS)).map fun r => single 4 (D.map Ex.c ++ E9 :: r) from by
          rw [hY.out, cutG_piece HNC.out HR.out, Option.map_map, hE9]
          rfl)
        clear hY HR HNC H2P ca0 ca1 ca2 ca3 ca4 fca0 fca1 fca2 fca3 fca4 lca
        go_upto_if 62 with fail
        go_cut [] from 63 to 65 (fun wx => ∃ (yk yn yd yu : Int) (yoa : Option Addr) (yL yc : Nat), Hid (Below wr.heap.size wr wx) ∧ Hid (Blk wx g9 27 #[.int .i64 yk, .int .i64 yn, .int .i64 yd, .int .i64 yu, .slice yoa yL yc]) ∧ Hid (isEx (fun b => b < wr.heap.size ∨ b = g9) E9 (.agg #[.int .i64 yk, .int .i64 yn, .int .i64 yd, .int .i64 yu, .slice yoa yL yc]) wx))
        case first =>
          cases ov with
          | false =>
            have e9 : E = E9 := by rw [← hE9]; rfl
            clear hE9
            go_wp2_with fail
            go_meet
            exact ⟨vk, vn, vd, vu, voa, vL, vc, HWP, H9, Lib.hid (by rw [← e9]; exact HE.out.2 E rfl)⟩
          | true =>
            have e9 : Et.mk 5 0 0 0 [E] = E9 := by rw [← hE9]; rfl
            obtain ⟨x2, hx2, hxv, hxc, hxs⟩ := HE.out.2 E rfl
            have hxl2 := xcells_of hxv
            have h9B := H9.out.lt
            have hrp := HWP.out.size
            have hpu := grownBy_puts [.int .i64 5, .int .i64 0, .int .i64 0, .int .i64 0, .slice (some ⟨wp.heap.size, 0, none⟩) 1 1] wp g9 0
            have hm := turned9 (kk := 5) (cs := [.int .i64 5, .int .i64 0, .int .i64 0, .int .i64 0, .slice (some ⟨wp.heap.size, 0, none⟩) 1 1]) (V := #[.int .i64 vk, .int .i64 vn, .int .i64 vd, .int .i64 vu, .slice voa vL vc]) hxl2 rfl h9B hrp (i64_small _ (by decide)) hxs
            have hbm := (below_far HWP.out hpu (fun k e => by have e := Option.some.inj e; omega)).alloc (by rw [puts_size]; omega) (.cells #[.int .i64 vk, .int .i64 vn, .int .i64 vd, .int .i64 vu, .slice voa vL vc] 27)
            simp only [puts, Nat.zero_add, Nat.reduceAdd] at hm hbm
            have HXM := Lib.hid (And.intro hm (And.intro hxc e9))
            have HBM := Lib.hid hbm
            have H9M := Lib.hid ((H9.out.put5 (.int .i64 5) (.int .i64 0) (.int .i64 0) (.int .i64 0) (.slice (some ⟨wp.heap.size, 0, none⟩) 1 1)).old (.cells #[.int .i64 vk, .int .i64 vn, .int .i64 vd, .int .i64 vu, .slice voa vL vc] 27))
            have h9 := H9.out
            have cg0 : wp.cell? ⟨g9, 0, none⟩ = some (.int .i64 vk) := (h9).cell 0
            have fcg0 := (h9).frozen 0
            have cg1 : wp.cell? ⟨g9, 1, none⟩ = some (.int .i64 vn) := (h9).cell 1
            have fcg1 := (h9).frozen 1
            have cg2 : wp.cell? ⟨g9, 2, none⟩ = some (.int .i64 vd) := (h9).cell 2
            have fcg2 := (h9).frozen 2
            have cg3 : wp.cell? ⟨g9, 3, none⟩ = some (.int .i64 vu) := (h9).cell 3
            have fcg3 := (h9).frozen 3
            have cg4 : wp.cell? ⟨g9, 4, none⟩ = some (.slice voa vL vc) := (h9).cell 4
            have fcg4 := (h9).frozen 4
            have lcg := (h9).lt
            clear hE9 hxl2 hxv hxc hxs e9 hpu h9 hm hbm
            go_wp2_with fail
            go_meet
            exact ⟨5, 0, 0, 0, some ⟨wp.heap.size, 0, none⟩, 1, 1, HBM, H9M, Lib.hid ⟨_, _, rfl, by rw [Ex.c_mk, List.map_cons, List.map_nil, HXM.out.2.1]; exact HXM.out.2.2, HXM.out.1⟩⟩
        obtain ⟨yk, yn, yd, yu, yoa, yL, yc, hwx, h9x, hex⟩ := hcut
        obtain ⟨x9, hx9, hxv, hxc, hxs⟩ := hex.out
        have HXL := Lib.hid (And.intro (xcells_of hxv) (And.intro hxc hxs))
        have h9 := h9x.out
        have cg0 : wc.cell? ⟨g9, 0, none⟩ = some (.int .i64 yk) := (h9).cell 0
        have fcg0 := (h9).frozen 0
        have cg1 : wc.cell? ⟨g9, 1, none⟩ = some (.int .i64 yn) := (h9).cell 1
        have fcg1 := (h9).frozen 1
        have cg2 : wc.cell? ⟨g9, 2, none⟩ = some (.int .i64 yd) := (h9).cell 2
        have fcg2 := (h9).frozen 2
        have cg3 : wc.cell? ⟨g9, 3, none⟩ = some (.int .i64 yu) := (h9).cell 3
        have fcg3 := (h9).frozen 3
        have cg4 : wc.cell? ⟨g9, 4, none⟩ = some (.slice yoa yL yc) := (h9).cell 4
        have fcg4 := (h9).frozen 4
        have lcg := (h9).lt
        have hOx := Lib.hid (owns_belowW hO.out hwx.out)
        have hSx := Lib.hid (show ∃ hh, Safe (fun b => b < w7.heap.size ∨ v.ownBlock = some b) wc fun w => ∀ x ∈ D, ExIn w hh x by obtain ⟨hh, hs⟩ := hS.out; exact ⟨hh, hs.below hwx.out⟩)
        have hBx := Lib.hid (below_far hb.out (grownBy_of_below hwx.out none) (fun _ e => by cases e))
        have hrx := hwx.out.size
        clear hxv hxc hxs hex h9 hE9 HE h9x HWP H9
        go_upto_region 18 with (at_builtin; refine wpList_add elExpr rfl _ _ rfl rfl (hOx.out.alloc _) (by simp; omega) (Blk.new wc _ _) 1 rfl rfl (by simp [Value.oneCell']) (by omega) (by omega) ?_; intro gg cap3 wA hoA hgA hatA hvbA; have HA := Lib.hid (And.intro hoA (And.intro hgA (And.intro hatA hvbA))); clear hoA hgA hatA hvbA)
        have HP := Lib.hid (row_put (B3 := wr.heap.size) hBx.out HVB.out h7r hrx hSx.out (HXL.out.2.2.anti fun b hb _ => Or.inl hb) HA.out.1 HXL.out.1 (show World.grownBy _ _ v.ownBlock from HA.out.2.1) (show v.ownBlock = some gg ∨ _ from HA.out.2.2.1))
        have HXC := Lib.hid HXL.out.2.1
        clear HA hSx hOx HXL hS hO HVB cg0 cg1 cg2 cg3 cg4 fcg0 fcg1 fcg2 fcg3 fcg4 lcg
        obtain ⟨ov2, hov⟩ : ∃ ov2, ((XL[i]?.map textV).getD [] == slashS) = ov2 := ⟨_, rfl⟩
        have HOV := Lib.hid (show ov2 = ((XL[i]?.map textV).getD [] == slashS) ∨ n = 0 from Or.inl hov.symm)
        have HOW := Lib.hid hov
        clear hov
        go_cut [6] from 70 to 82 (fun s wx => s = .bool ov2 ∧ wx = wA)
        case first =>
          by_cases h1 : i < N
          · have gj : decide ((i : Int) < (N : Int)) = true := by simpa using h1
            have gjn : decide (i < N) = true := by simpa using h1
            have HW := Lib.hid (HS.out.below HP.out.1)
            have hil : i < l.length := by rw [HN.out.1]; exact h1
            have hli : l[i]? = some l[i] := List.getElem?_eq_getElem hil
            obtain ⟨rfl, hbl⟩ := HW.out.sl.lies (by omega)
            obtain ⟨x, hx⟩ : ∃ x, l[i] = x := ⟨_, rfl⟩
            rw [hx] at hli
            have hxl : XL[i]? = some x.c := by rw [← HN.out.2.1, List.getElem?_map, hli]; rfl
            have hvs := HW.out
            obtain ⟨t, koa, kb, ko, kcap, kids⟩ := x
            obtain ⟨K, hK⟩ : ∃ K, kids.length = K := ⟨_, rfl⟩
            have f0 := hvs.cell hli (j := 0) rfl
            have f1 := hvs.cell hli (j := 1) rfl
            have f2 := hvs.cell hli (j := 2) rfl
            have f3 := hvs.cell hli (j := 3) rfl
            have f4 := hvs.cell hli (j := 4) rfl
            have f5 := hvs.cell hli (j := 5) rfl
            have f6 := hvs.cell hli (j := 6) rfl
            rw [Nat.add_zero] at f0
            rw [hK] at f6
            obtain ⟨tk, tt, ⟨tn, td⟩, ti, tid⟩ := t
            rw [Vl.c_mk] at hxl
            have hsb : (tt == [47]) = ov2 := by rw [← HOW.out, hxl]; rfl
            clear hvs hli hil hx hxl hK
            go_wp2_with fail
            go_meet
            exact ⟨by first | rfl | rw [hsb], rfl⟩
          · have gj : decide ((i : Int) < (N : Int)) = false := by simpa using h1
            have gjn : decide (i < N) = false := by simpa using h1
            have hsb : ov2 = false := by
              rw [← HOW.out, List.getElem?_eq_none (by rw [HN.out.2.2]; omega)]
              rfl
            go_wp2_with fail
            go_meet
            exact ⟨by rw [hsb], rfl⟩
        obtain ⟨rfl, e⟩ := hcut
        subst e
        go_wp2_with fail
        go_roundg (N + 1 - (i + 1))
        case measure => omega
        case rel =>
          obtain ⟨a1, a2, a3⟩ := HP.out
          refine ⟨i + 1, i + 1, n, ov2, D ++ [x9], _, rfl, by go_num, rfl, by go_num, Nat.le_refl _, by omega, by rw [List.length_append, List.length_singleton]; omega, by omega, Lib.hid a1, Lib.hid ?_, Lib.hid a3, Lib.hid ?_, Nat.le_refl _⟩
          · rw [List.length_append, List.length_singleton] at a2 ⊢
            exact a2
          · rw [HYP.out, List.map_append, List.map_cons, List.map_nil, HXC.out]
            rcases HOV.out with h | h
            · rw [h]
              simp only [List.append_assoc, List.singleton_append]
            · subst h
              simp only [cutG, Option.map_some, List.append_assoc, List.singleton_append]
    · have hiE : i = N + 1 := by omega
      have gi : decide ((i : Int) ≤ (N : Int)) = false := by simp; omega
      have gin : decide (i ≤ N) = false := by simp; omega
      obtain rfl : n = 0 := by omega
      have hYe : Y = some (single 4 (D.map Ex.c)) := by rw [hY.out]; simp [cutG]
      have HYE := Lib.hid hYe
      obtain ⟨voa, vcap, gv, rfl, hsl, hpos⟩ := sl_of_own hO.out
      have h2r := H27.out.below hb.out H27.out.lt
      have ca0 : wr.cell? ⟨g2, 0, none⟩ = some (.int .i64 0) := (h2r).cell 0
      have fca0 := (h2r).frozen 0
      have ca1 : wr.cell? ⟨g2, 1, none⟩ = some (.int .i64 0) := (h2r).cell 1
      have fca1 := (h2r).frozen 1
      have ca2 : wr.cell? ⟨g2, 2, none⟩ = some (.int .i64 0) := (h2r).cell 2
      have fca2 := (h2r).frozen 2
      have ca3 : wr.cell? ⟨g2, 3, none⟩ = some (.int .i64 0) := (h2r).cell 3
      have fca3 := (h2r).frozen 3
      have ca4 : wr.cell? ⟨g2, 4, none⟩ = some (.slice none 0 0) := (h2r).cell 4
      have fca4 := (h2r).frozen 4
      have lca := (h2r).lt
      have H2R := Lib.hid h2r
      clear h2r hYe hY HY1
      by_cases hD1 : D.length = 1
      · obtain ⟨x, rfl⟩ := List.length_eq_one_iff.1 hD1
        obtain ⟨rfl, hgl⟩ := hsl.lies (by simp)
        have HEX := Lib.hid (show isEx (· < w7.heap.size) x.c (xv x) wr from by
          obtain ⟨hh, hs⟩ := hS.out
          exact ⟨x, hh, rfl, rfl, (hs.mono fun w hw => hw x (List.mem_singleton.2 rfl)).anti fun b hb _ => Or.inl hb⟩)
        have HXC := Lib.hid (show Y = some x.c from HYE.out)
        obtain ⟨k', n', d', u', oa', b', o', cap', kids'⟩ := x
        obtain ⟨K', hK'⟩ : ∃ K', kids'.length = K' := ⟨_, rfl⟩
        have f0 : wr.cell? ⟨gv, 0, none⟩ = some (.int .i64 k') := by have := hsl.cell 0 _ rfl; simpa using this
        have f1 : wr.cell? ⟨gv, 1, none⟩ = some (.int .i64 n') := by have := hsl.cell 1 _ rfl; simpa using this
        have f2 : wr.cell? ⟨gv, 2, none⟩ = some (.int .i64 d') := by have := hsl.cell 2 _ rfl; simpa using this
        have f3 : wr.cell? ⟨gv, 3, none⟩ = some (.int .i64 u') := by have := hsl.cell 3 _ rfl; simpa using this
        have f4 : wr.cell? ⟨gv, 4, none⟩ = some (.slice oa' K' cap') := by have := hsl.cell 4 _ rfl; rw [← hK']; simpa using this
        have hxv : xv (Ex.mk k' n' d' u' oa' b' o' cap' kids') = .agg #[.int .i64 k', .int .i64 n', .int .i64 d', .int .i64 u', .slice oa' K' cap'] := by rw [← hK']; rfl
        rw [hxv] at HEX
        clear hxv hK' hsl hO hS HYE hpos
        simp only [List.length_singleton] at *
        go_wp2_with fail
        have hputs := (H2R.out).put5 (.int .i64 k') (.int .i64 n') (.int .i64 d') (.int .i64 u') (.slice oa' K' cap')
        refine bodyPost_ret (v := .tuple #[.agg #[.int .i64 k', .int .i64 n', .int .i64 d', .int .i64 u', .slice oa' K' cap'], .bool true]) ?_ rfl ?_
        · refine ret_ex2 Tryd.results66 ?_ ?_ hputs rfl
          all_goals rfl
        · exact HFIN.out _ _ wr _ (by rw [HXC.out]; rfl) ⟨_, _, _, _, _, _, _, rfl⟩ (fun E hE => by rw [HXC.out] at hE; injection hE with hE; subst hE; exact HEX.out) hb.out (grownBy_puts [.int .i64 k', .int .i64 n', .int .i64 d', .int .i64 u', .slice oa' K' cap'] wr g2 0)
      · have g1 : ((D.length : Int) == 1) = false := by simp; omega
        have hex : isEx (· < w7.heap.size) (.mk 4 0 0 0 (D.map Ex.c)) (.agg #[.int .i64 4, .int .i64 0, .int .i64 0, .int .i64 0, .slice voa D.length vcap]) wr := by
          obtain ⟨hh, hs⟩ := hS.out
          refine ⟨.mk 4 0 0 0 voa gv 0 vcap D, hh + 1, rfl, Ex.c_mk _ _ _ _ _ _ _ _ _, ExIn.made (i64_small _ (by decide)) (by unfold Is64; decide) (i64_small _ (by decide)) (by omega) hsl (fun hp hb => ?_) (hs.anti fun b hb _ => Or.inl hb)⟩
          have := hpos hp
          have hb : gv < w7.heap.size := hb
          omega
        have HXC := Lib.hid (show Y = some (.mk 4 0 0 0 (D.map Ex.c)) from by
          rw [HYE.out]
          match D, hD1 with
          | [], _ => rfl
          | [x], e => exact absurd rfl e
          | x :: y :: r, _ => rfl)
        obtain ⟨L, hL⟩ : ∃ L, D.length = L := ⟨_, rfl⟩
        rw [hL] at hex g1 hDi
        have HEX := Lib.hid hex
        simp only [hL]
        clear hsl hO hS HYE hpos hD1 hex hL
        go_wp2_with fail
        have hputs := (H2R.out).put5 (.int .i64 4) (.int .i64 0) (.int .i64 0) (.int .i64 0) (.slice voa L vcap)
        refine bodyPost_ret (v := .tuple #[.agg #[.int .i64 4, .int .i64 0, .int .i64 0, .int .i64 0, .slice voa L vcap], .bool true]) ?_ rfl ?_
        · refine ret_ex2 Tryd.results66 ?_ ?_ hputs rfl
          all_goals rfl
        · exact HFIN.out _ _ wr _ (by rw [HXC.out]; rfl) ⟨_, _, _, _, _, _, _, rfl⟩ (fun E hE => by rw [HXC.out] at hE; injection hE with hE; subst hE; exact HEX.out) hb.out (grownBy_puts [.int .i64 4, .int .i64 0, .int .i64 0, .int .i64 0, .slice voa L vcap] wr g2 0)

end Go.Proofs.YtplnhjmomomphaaDoor

namespace Go.Proofs.YtplnhjmomomphaaDoor
set_option linter.unusedVariables false
set_option linter.unusedSimpArgs false
open Go.RowKit

/-- the reference's sums, behind the blanks at the ends -/
def sumT (f : Vt → Option Et) (l : List Vt) : Option Et := (cutG (prodR f) (cutR l) l minusS 3 (l.length + 1) 0 0 false).map (single 2)
theorem sumR_T (f : Vt → Option Et) (l : List Vt) : sumR f l = sumT f (trimV l) := rfl
theorem cutR_at {l : List Vt} {i : Nat} {v : Vt} (h : l[i]? = some v) : cutR l i = (decide (0 < i) && decide (i + 1 < l.length) && signV plusS minusS v && (l[i - 1]?.map spV).getD false && (l[i + 1]?.map spV).getD false) := by rw [cutR, h]
theorem cutR_out {l : List Vt} {i : Nat} (h : l.length ≤ i) : cutR l i = false := by rw [cutR, List.getElem?_eq_none h]

set_option maxRecDepth 20000 in
set_option maxHeartbeats 8000000 in
theorem rsum_step (h : Nat) (hP : RProdAt h) : RSumAt h := by
  intro l oa cap b o w hs
  obtain ⟨Y, hY⟩ : ∃ Y, sumR (opF sumR h) (l.map Vl.c) = Y := ⟨_, rfl⟩
  rw [hY]
  rw [sumR_T] at hY
  have hb0 := below_box w (.cells #[.int .i64 0, .int .i64 0, .int .i64 0, .int .i64 0, .slice none 0 0] 27)
  have h2 := Blk.new w 27 #[.int .i64 0, .int .i64 0, .int .i64 0, .int .i64 0, .slice none 0 0]
  have htr := trim5_safe h l oa cap b o _ (hs.below hb0).safe
  obtain ⟨L0, hL0⟩ : ∃ L0, l.length = L0 := ⟨_, rfl⟩
  rw [hL0] at htr ⊢
  have H20 := Lib.hid h2
  have HB0 := Lib.hid hb0
  have HTR := Lib.hid htr
  clear hs hb0 h2 htr hL0
  go_enter Tryd.func51, Tryd.ntmps51
  go_upto_region 1 with fail
  obtain ⟨g2, hg2⟩ : ∃ g2, w.heap.size = g2 := ⟨_, rfl⟩
  have HG := Lib.hid hg2
  rw [hg2] at H20
  simp only [hg2]
  clear hg2
  generalize w.alloc _ = w1 at *
  go_wp2_with fail
  ((with_reducible refine HTR.out.mono ?_); rintro e w7 ⟨⟨v, rfl, oa, cap, b, o, l, rfl, hc2, hs2⟩, hb1⟩)
  rw [← hc2] at hY
  have hs7 := hs2.here
  have H27 := Lib.hid (H20.out.below hb1 H20.out.lt)
  have HB7 := Lib.hid (below_far HB0.out (grownBy_of_below hb1 none) (fun _ e => by cases e))
  clear hc2 hs2 hb1 HTR H20 HB0

  have HFIN := Lib.hid (show ∀ (v : Value) (ok : Bool) (wx we : World), ok = Y.isSome → isE5 v → (∀ E, Y = some E → isEx (· < w7.heap.size) E v wx) → Below w7.heap.size w7 wx → wx.grownBy we (some g2) → retE (· < w.heap.size) Y (.returned (.tuple #[v, .bool ok])) we ∧ Below w.heap.size w we from
    fun v ok wx we h1 h2 h3 h4 h5 => ⟨⟨v, ok, rfl, h1, h2, fun E hE => ((h3 E hE).grown h5 (fun k e _ => by injection e with e; have := H27.out.lt; omega)).anti fun b hb => Or.inl (by have := HB7.out.size; have hb : b < w.heap.size := hb; show b < w7.heap.size; omega)⟩,
      below_far (below_far HB7.out (grownBy_of_below h4 none) (fun _ e => by cases e)) h5 (fun k e => by injection e with e; have := HG.out; omega)⟩)
  obtain ⟨XL, hXL⟩ : ∃ XL, l.map Vl.c = XL := ⟨_, rfl⟩
  obtain ⟨N, hN⟩ : ∃ N, l.length = N := ⟨_, rfl⟩
  have hNX : XL.length = N := by rw [← hXL, List.length_map, hN]
  have hsm := hs7.small
  have hcm := hs7.sl.max
  have hcl := hs7.sl.le
  unfold maxLen at hcm
  rw [hN] at hsm hcl
  have HS := Lib.hid hs7
  have HN := Lib.hid (And.intro hN (And.intro hXL hNX))
  rw [hXL] at hY
  have hY1 : Y = (cutG (prodR (opF sumR h)) (cutR XL) XL minusS 3 (N + 1) 0 0 false).map fun r => single 2 (([] : List Ex).map Ex.c ++ r) := by
    rw [← hY]
    unfold sumT
    rw [hNX]
    rfl
  have HY1 := Lib.hid hY1
  have HT := Lib.hid (fun (a c : Nat) (hac : a ≤ c) (hc : c ≤ l.length) (wx : World) (hb : Below w7.heap.size w7 wx) =>
    (show (∃ (oa' : Option Addr) (c' : Nat), oa' = (if cap = a then oa else oa.map (·.add (a * 7))) ∧ c' = cap - a ∧ Calls Tryd.prog 66 #[.slice oa' (c - a) c'] wx fun e w' => retE (· < wx.heap.size) (prodR (opF sumR h) ((XL.take c).drop a)) e w' ∧ Below wx.heap.size wx w') from by
      obtain ⟨oa', ho⟩ : ∃ oa', oa' = (if cap = a then oa else oa.map (·.add (a * 7))) := ⟨_, rfl⟩
      obtain ⟨c', hc'⟩ : ∃ c', c' = cap - a := ⟨_, rfl⟩
      refine ⟨oa', c', ho, hc', ?_⟩
      subst ho hc'
      generalize hoa' : (if cap = a then oa else oa.map (·.add (a * 7))) = oa'
      obtain ⟨c', hc'⟩ : ∃ c', cap - a = c' := ⟨_, rfl⟩
      have hlen : ((l.take c).drop a).length = c - a := by rw [List.length_drop, List.length_take]; omega
      have hmap : ((l.take c).drop a).map Vl.c = (XL.take c).drop a := by rw [List.map_drop, List.map_take, hXL]
      rw [← hlen, ← hmap, hc']
      subst hoa' hc'
      exact hP ((l.take c).drop a) _ _ b (o + a * 7) wx ((hs7.below hb).part hac hc)))
  simp only [hN]
  clear hs7 hN hXL hNX hY hY1
  go_wp2_with fail
  go_loopg [4, 5, 6, 7] (N + 1) (fun q s4 s5 s6 s7 wr => ∃ (i a n : Nat) (ov : Bool) (D : List Ex) (v : Value), v = s4 ∧ s5 = .int .i64 (a : Int) ∧ s6 = .bool ov ∧ s7 = .int .i64 (i : Int) ∧ a ≤ i ∧ i ≤ N + 1 ∧ D.length ≤ i ∧ n + i = N + 1 ∧ Hid (Below w7.heap.size w7 wr) ∧
    Hid (wr.ownsRow w7.heap.size 27 5 v D.length (D.flatMap xcells)) ∧ Hid (∃ hh, Safe (fun b => b < w7.heap.size ∨ v.ownBlock = some b) wr fun w => ∀ x ∈ D, ExIn w hh x) ∧
    Hid (Y = (cutG (prodR (opF sumR h)) (cutR XL) XL minusS 3 n i a ov).map fun r => single 2 (D.map Ex.c ++ r)) ∧ N + 1 - i ≤ q)
  case atStart => exact ⟨0, 0, N + 1, false, [], _, rfl, rfl, rfl, rfl, Nat.le_refl _, Nat.zero_le _, Nat.le_refl _, rfl, Lib.hid (Below.refl _ _), Lib.hid (World.ownsRow_nil _ _ _ _), Lib.hid ⟨0, fun _ _ _ _ hx => by cases hx⟩, HY1, by omega⟩
  case round =>
    obtain ⟨i, a, n, ov, D, v, rfl, rfl, rfl, rfl, hai, hiN, hDi, hni, hb, hO, hS, hY, hq⟩ := hrel
    have h7r := hb.out.size
    by_cases hi : i ≤ N
    · have gi : decide ((i : Int) ≤ (N : Int)) = true := by simpa using hi
      have gin : decide (i ≤ N) = true := by simpa using hi
      obtain ⟨n, rfl⟩ : ∃ n', n = n' + 1 := ⟨n - 1, by omega⟩
      have HW := Lib.hid (HS.out.below hb.out)
      have HVB := Lib.hid (show ∀ b, v.ownBlock = some b → w7.heap.size ≤ b ∧ b < wr.heap.size from fun b e => hO.out.lt b e)
      go_upto_region 7 with fail
      obtain ⟨ct, hct⟩ : ∃ ct, cutR XL i = ct := ⟨_, rfl⟩
      have HCT := Lib.hid hct
      clear hct
      go_cut [8] from 19 to 56 (fun s wx => s = .bool ct ∧ Hid (Below wr.heap.size wr wx))
      case first =>
        by_cases h1 : i < N
        · have gj : decide ((i : Int) < (N : Int)) = true := by simpa using h1
          have gjn : decide (i < N) = true := by simpa using h1
          have hil : i < l.length := by rw [HN.out.1]; exact h1
          have hli : l[i]? = some l[i] := List.getElem?_eq_getElem hil
          obtain ⟨rfl, hbl⟩ := HW.out.sl.lies (by omega)
          obtain ⟨x, hx⟩ : ∃ x, l[i] = x := ⟨_, rfl⟩
          rw [hx] at hli
          have hxl : XL[i]? = some x.c := by rw [← HN.out.2.1, List.getElem?_map, hli]; rfl
          have hvs := HW.out
          obtain ⟨t, koa, kb, ko, kcap, kids⟩ := x
          obtain ⟨K, hK⟩ : ∃ K, kids.length = K := ⟨_, rfl⟩
          have f0 := hvs.cell hli (j := 0) rfl
          have f1 := hvs.cell hli (j := 1) rfl
          have f2 := hvs.cell hli (j := 2) rfl
          have f3 := hvs.cell hli (j := 3) rfl
          have f4 := hvs.cell hli (j := 4) rfl
          have f5 := hvs.cell hli (j := 5) rfl
          have f6 := hvs.cell hli (j := 6) rfl
          rw [Nat.add_zero] at f0
          rw [hK] at f6
          obtain ⟨tk, tt, ⟨tn, td⟩, ti, tid⟩ := t
          rw [Vl.c_mk] at hxl
          rw [cutR_at hxl, HN.out.2.2] at HCT
          have hsb : signV plusS minusS (.mk ⟨tk, tt, (tn, td), ti, tid⟩ (kids.map Vl.c)) = (tk == 9 && (tt == [43] || tt == [45])) := rfl
          rw [hsb] at HCT
          by_cases h2 : 0 < i ∧ i + 1 < N
          · obtain ⟨h2, h3⟩ := h2
            have g2 : decide ((0 : Int) < (i : Int)) = true := by simpa using h2
            have g2n : decide (0 < i) = true := by simpa using h2
            have g3 : decide ((i : Int) + 1 < (N : Int)) = true := by simp; omega
            have g3n : decide (i + 1 < N) = true := by simpa using h3
            have hsg := fun w => r11sign_any tk tn td tt [43] [45] ti tid koa K kcap w
            obtain ⟨sb, hsb2⟩ : ∃ sb, (tk == 9 && (tt == [43] || tt == [45])) = sb := ⟨_, rfl⟩
            rw [hsb2] at HCT
            simp only [hsb2] at hsg
            have HSG := Lib.hid hsg
            have HC2 := Lib.hid (show (sb && (XL[i - 1]?.map spV).getD false && (XL[i + 1]?.map spV).getD false) = ct by rw [← HCT.out, g2n, g3n]; rfl)
            clear hvs hli hil hx hxl hK hsb hsg hsb2
            obtain ⟨j, rfl⟩ : ∃ j, i = j + 1 := ⟨i - 1, by omega⟩
            have hix : (((j + 1 : Nat) : Int)) - 1 = (j : Int) := by omega
            go_wp2_with fail
            ((with_reducible refine (HSG.out _).mono ?_); rintro e w5 ⟨rfl, hb5⟩)
            have HB5 := Lib.hid hb5
            have HW5 := Lib.hid (HW.out.below hb5)
            clear hb5 f0 f1 f2 f3 f4 f5 f6
            cases sb with
            | false =>
              obtain rfl : false = ct := HC2.out
              go_wp2_with fail
              go_meet
              exact ⟨rfl, HB5⟩
            | true =>
              have uil : j < l.length := by rw [HN.out.1]; omega
              have uli : l[j]? = some l[j] := List.getElem?_eq_getElem uil
              obtain ⟨ux, uhx⟩ : ∃ x, l[j] = x := ⟨_, rfl⟩
              rw [uhx] at uli
              have uxl : XL[j]? = some ux.c := by rw [← HN.out.2.1, List.getElem?_map, uli]; rfl
              have uvs := HW5.out
              obtain ⟨ut, uoa, ub, uo, ucap, ukids⟩ := ux
              obtain ⟨uK, uhK⟩ : ∃ K, ukids.length = K := ⟨_, rfl⟩
              have uf0 := uvs.cell uli (j := 0) rfl
              have uf1 := uvs.cell uli (j := 1) rfl
              have uf2 := uvs.cell uli (j := 2) rfl
              have uf3 := uvs.cell uli (j := 3) rfl
              have uf4 := uvs.cell uli (j := 4) rfl
              have uf5 := uvs.cell uli (j := 5) rfl
              have uf6 := uvs.cell uli (j := 6) rfl
              rw [Nat.add_zero] at uf0
              rw [uhK] at uf6
              obtain ⟨uk, utt, ⟨un, ud⟩, ui, uid⟩ := ut
              rw [Vl.c_mk] at uxl
              have usp : (XL[j]?.map spV).getD false = (uk == 13) := by rw [uxl]; rfl
              have hbl5 : b < w5.heap.size := Nat.lt_of_lt_of_le hbl HB5.out.size
              have HSP := Lib.hid (fun w => r11space_any uk un ud utt ui uid uoa uK ucap w)
              obtain ⟨s1, hs1⟩ : ∃ s1, (uk == 13) = s1 := ⟨_, rfl⟩
              have HC3 := Lib.hid (show (s1 && (XL[j + 1 + 1]?.map spV).getD false) = ct by rw [← HC2.out, ← hs1, ← usp]; rfl)
              simp only [hs1] at HSP
              clear uvs uli uil uhx uxl uhK usp hs1
              go_wp2_with fail
              ((with_reducible refine (HSP.out _).mono ?_); rintro e w6 ⟨rfl, hb6⟩)
              have HB6 := Lib.hid (below_far HB5.out (grownBy_of_below hb6 none) (fun _ e => by cases e))
              have HW6 := Lib.hid (HW5.out.below hb6)
              clear hb6 uf0 uf1 uf2 uf3 uf4 uf5 uf6
              cases s1 with
              | false =>
                obtain rfl : false = ct := HC3.out
                go_wp2_with fail
                go_meet
                exact ⟨rfl, HB6⟩
              | true =>
                have yil : j + 1 + 1 < l.length := by rw [HN.out.1]; omega
                have yli : l[j + 1 + 1]? = some l[j + 1 + 1] := List.getElem?_eq_getElem yil
                obtain ⟨yx, yhx⟩ : ∃ x, l[j + 1 + 1] = x := ⟨_, rfl⟩
                rw [yhx] at yli
                have yxl : XL[j + 1 + 1]? = some yx.c := by rw [← HN.out.2.1, List.getElem?_map, yli]; rfl
                have yvs := HW6.out
                obtain ⟨yt, yoa, yb, yo, ycap, ykids⟩ := yx
                obtain ⟨yK, yhK⟩ : ∃ K, ykids.length = K := ⟨_, rfl⟩
                have yf0 := yvs.cell yli (j := 0) rfl
                have yf1 := yvs.cell yli (j := 1) rfl
                have yf2 := yvs.cell yli (j := 2) rfl
                have yf3 := yvs.cell yli (j := 3) rfl
                have yf4 := yvs.cell yli (j := 4) rfl
                have yf5 := yvs.cell yli (j := 5) rfl
                have yf6 := yvs.cell yli (j := 6) rfl
                rw [Nat.add_zero] at yf0
                rw [yhK] at yf6
                obtain ⟨yk, ytt, ⟨yn, yd⟩, yi, yid⟩ := yt
                rw [Vl.c_mk] at yxl
                have ysp : (XL[j + 1 + 1]?.map spV).getD false = (yk == 13) := by rw [yxl]; rfl
                have hbl6 : b < w6.heap.size := Nat.lt_of_lt_of_le hbl HB6.out.size
                have HSQ := Lib.hid (fun w => r11space_any yk yn yd ytt yi yid yoa yK ycap w)
                have hs2 : (yk == 13) = ct := by rw [← HC3.out, ← ysp]; rfl
                simp only [hs2] at HSQ
                clear yvs yli yil yhx yxl yhK ysp hs2
                go_wp2_with fail
                ((with_reducible refine (HSQ.out _).mono ?_); rintro e w8 ⟨rfl, hb8⟩)
                have HB8 := Lib.hid (below_far HB6.out (grownBy_of_below hb8 none) (fun _ e => by cases e))
                clear hb8
                go_wp2_with fail
                go_meet
                exact ⟨rfl, HB8⟩
          · obtain rfl : ct = false := by
              rw [← HCT.out]
              by_cases h3 : 0 < i
              · have h4 : ¬ i + 1 < N := fun h => h2 ⟨h3, h⟩
                simp [h4]
              · simp [h3]
            clear hvs hli hil hx hxl hK hsb
            by_cases h3 : 0 < i
            · have g2 : decide ((0 : Int) < (i : Int)) = true := by simpa using h3
              have g2n : decide (0 < i) = true := by simpa using h3
              have h4 : ¬ i + 1 < N := fun h => h2 ⟨h3, h⟩
              have g3 : decide ((i : Int) + 1 < (N : Int)) = false := by simp; omega
              have g3n : decide (i + 1 < N) = false := by simpa using h4
              go_wp2_with fail
              go_meet
              exact ⟨rfl, Lib.hid (Below.refl _ _)⟩
            · have g2 : decide ((0 : Int) < (i : Int)) = false := by simp; omega
              have g2n : decide (0 < i) = false := by simpa using h3
              go_wp2_with fail
              go_meet
              exact ⟨rfl, Lib.hid (Below.refl _ _)⟩
        · have gj : decide ((i : Int) < (N : Int)) = false := by simpa using h1
          have gjn : decide (i < N) = false := by simpa using h1
          have hc0 : ct = false := by rw [← HCT.out]; exact cutR_out (by rw [HN.out.2.2]; omega)
          subst hc0
          go_wp2_with fail
          go_meet
          exact ⟨rfl, Lib.hid (Below.refl _ _)⟩
      obtain ⟨rfl, HWC⟩ := hcut
      obtain ⟨cb, hcb⟩ : ∃ cb, (decide (i < N) && !ct) = cb := ⟨_, rfl⟩
      have HCB := Lib.hid hcb
      clear hcb
      go_upto_region 8 with fail
      go_cut [64] from 57 to 64 (fun s wx => s = .bool cb ∧ wx = wc)
      case first =>
        by_cases h1 : i < N
        · have gj : decide ((i : Int) < (N : Int)) = true := by simpa using h1
          have gjn : decide (i < N) = true := by simpa using h1
          go_wp2_with fail
          go_meet
          exact ⟨by rw [← HCB.out]; simp [h1], rfl⟩
        · have gj : decide ((i : Int) < (N : Int)) = false := by simpa using h1
          have gjn : decide (i < N) = false := by simpa using h1
          go_wp2_with fail
          go_meet
          exact ⟨by rw [← HCB.out]; simp [h1], rfl⟩
      obtain ⟨rfl, e⟩ := hcut
      subst e
      obtain hcb | hcb : cb = true ∨ cb = false := by cases cb <;> simp
      · subst hcb
        have hic : i < N ∧ ct = false := by have := HCB.out; simpa using this
        have hyn := hY.out
        rw [cutG_skip (show i < XL.length ∧ (cutR XL) i = false by rw [HN.out.2.2, HCT.out]; exact hic)] at hyn
        have HYN := Lib.hid hyn
        obtain ⟨hi2, rfl⟩ := hic
        clear hyn
        go_wp2_with fail
        go_roundg (N + 1 - (i + 1))
        case measure => omega
        case rel => exact ⟨i + 1, a, n, ov, D, v, rfl, rfl, rfl, by go_num, by omega, by omega, by omega, by omega, Lib.hid (below_far hb.out (grownBy_of_below HWC.out none) (fun _ e => by cases e)), Lib.hid (owns_belowW hO.out HWC.out), Lib.hid (by obtain ⟨hh, hs⟩ := hS.out; exact ⟨hh, hs.below HWC.out⟩), HYN, Nat.le_refl _⟩
      subst hcb
      have hic : ¬ (i < N ∧ ct = false) := by
        rintro ⟨h1, rfl⟩
        have := HCB.out
        simp [h1] at this
      have HNC := Lib.hid (show ¬ (i < XL.length ∧ (cutR XL) i = false) by rw [HN.out.2.2, HCT.out]; exact hic)
      have HWAYS := Lib.hid (show i < N → ct = true from fun h => by
        rcases Bool.eq_false_or_eq_true ct with e | e
        · exact e
        · exact absurd ⟨h, e⟩ hic)
      clear hic HCB
      obtain ⟨r, hr⟩ : ∃ r, (prodR (opF sumR h)) ((XL.take i).drop a) = r := ⟨_, rfl⟩
      have HR := Lib.hid hr
      have hrc := HWC.out.size
      clear hr
      go_upto_region 9 with fail
      go_cut [9, 10] from 65 to 72 (fun s9 s10 wx => ∃ (g9 : Nat) (ok : Bool) (vk vn vd vu : Int) (voa : Option Addr) (vL vc : Nat), s9 = .pointer (some ⟨g9, 0, none⟩) ∧ s10 = .bool ok ∧ wr.heap.size ≤ g9 ∧ Hid (Below wr.heap.size wr wx) ∧ Hid (Blk wx g9 27 #[.int .i64 vk, .int .i64 vn, .int .i64 vd, .int .i64 vu, .slice voa vL vc]) ∧ Hid (ok = r.isSome ∧ ∀ E, r = some E → isEx (fun b => b < wr.heap.size ∨ b = g9) E (.agg #[.int .i64 vk, .int .i64 vn, .int .i64 vd, .int .i64 vu, .slice voa vL vc]) wx))
      case first =>
        obtain ⟨oa', c', hoa', hc', hcall⟩ := HT.out a i hai (by rw [HN.out.1]; exact hi) wc (below_far hb.out (grownBy_of_below HWC.out none) (fun _ e => by cases e))
        rw [HR.out] at hcall
        have iai : (a : Int) ≤ (i : Int) := by omega
        have iic : (i : Int) ≤ (cap : Int) := by omega
        obtain ⟨M, hM⟩ : ∃ M, i - a = M := ⟨_, rfl⟩
        rw [hM] at hcall
        go_wp2_with fail
        all_goals
          first
            | (have e : cap = a := by assumption
               rw [if_pos e] at hoa'
               have hc0 : c' = 0 := by omega
               rw [hoa', hc0] at hcall
               subst e)
            | (have e : ¬ cap = a := by assumption
               rw [if_neg e] at hoa'
               rw [hoa', hc'] at hcall)
          ((with_reducible refine hcall.mono ?_); rintro e w4 ⟨⟨ev, ok, rfl, hok, h5, hE⟩, hb4⟩)
          obtain ⟨vk, vn, vd, vu, voa, vL, vc, rfl⟩ := h5
          have hw4 := hb4.size
          have hB5 := (below_far HWC.out (grownBy_of_below hb4 none) (fun _ e => by cases e)).alloc (by omega) (.cells #[.int .i64 vk, .int .i64 vn, .int .i64 vd, .int .i64 vu, .slice voa vL vc] 27)
          have HE5 := Lib.hid (show ok = r.isSome ∧ ∀ E, r = some E → isEx (fun b => b < wr.heap.size ∨ b = w4.heap.size) E (.agg #[.int .i64 vk, .int .i64 vn, .int .i64 vd, .int .i64 vu, .slice voa vL vc]) (w4.alloc (.cells #[.int .i64 vk, .int .i64 vn, .int .i64 vd, .int .i64 vu, .slice voa vL vc] 27)) from
            ⟨hok, fun E hE' => ((hE E hE').anti fun b hb => by
              rcases hb with hb | hb
              · exact Or.inl (show b < wc.heap.size by omega)
              · exact Or.inr (by omega)).below (below_box w4 _)⟩)
          have H95 := Lib.hid (Blk.new w4 27 #[.int .i64 vk, .int .i64 vn, .int .i64 vd, .int .i64 vu, .slice voa vL vc])
          have HB5 := Lib.hid hB5
          clear hE hb4 hcall hoa' hc' hB5 hok
          go_wp2_with fail
          go_meet
          exact ⟨w4.heap.size, ok, vk, vn, vd, vu, voa, vL, vc, rfl, rfl, by omega, HB5, H95, HE5⟩
      clear HWC hrc
      obtain ⟨g9, ok, vk, vn, vd, vu, voa, vL, vc, rfl, rfl, hg9, HWP, H9, HE⟩ := hcut
      generalize wc = wp at *
      have h2p := H27.out.below (below_far hb.out (grownBy_of_below HWP.out none) (fun _ e => by cases e)) H27.out.lt
      have ca0 : wp.cell? ⟨g2, 0, none⟩ = some (.int .i64 0) := (h2p).cell 0
      have fca0 := (h2p).frozen 0
      have ca1 : wp.cell? ⟨g2, 1, none⟩ = some (.int .i64 0) := (h2p).cell 1
      have fca1 := (h2p).frozen 1
      have ca2 : wp.cell? ⟨g2, 2, none⟩ = some (.int .i64 0) := (h2p).cell 2
      have fca2 := (h2p).frozen 2
      have ca3 : wp.cell? ⟨g2, 3, none⟩ = some (.int .i64 0) := (h2p).cell 3
      have fca3 := (h2p).frozen 3
      have ca4 : wp.cell? ⟨g2, 4, none⟩ = some (.slice none 0 0) := (h2p).cell 4
      have fca4 := (h2p).frozen 4
      have lca := (h2p).lt
      have H2P := Lib.hid h2p
      clear h2p
      cases r with
      | none =>
        obtain rfl : ok = false := HE.out.1
        have hYk : Y = none := by rw [hY.out, cutG_none HNC.out HR.out]; rfl
        go_wp2_with fail
        have hputs := (H2P.out).put5 (.int .i64 0) (.int .i64 0) (.int .i64 0) (.int .i64 0) (.slice none 0 0)
        refine bodyPost_ret (v := .tuple #[.agg #[.int .i64 0, .int .i64 0, .int .i64 0, .int .i64 0, .slice none 0 0], .bool false]) ?_ rfl ?_
        · refine ret_ex2 Tryd.results51 ?_ ?_ hputs rfl
          all_goals rfl
        · exact HFIN.out _ _ wp _ (by rw [hYk]; rfl) ⟨_, _, _, _, _, _, _, rfl⟩ (fun E hE => by rw [hYk] at hE; cases hE) (below_far hb.out (grownBy_of_below HWP.out none) (fun _ e => by cases e)) (grownBy_puts [.int .i64 0, .int .i64 0, .int .i64 0, .int .i64 0, .slice none 0 0] wp g2 0)
      | some E =>
        obtain rfl : ok = true := HE.out.1
        obtain ⟨E9, hE9⟩ : ∃ E9, (if ov = true then Et.mk 3 0 0 0 [E] else E) = E9 := ⟨_, rfl⟩
        have HYP := Lib.hid (show Y = (cutG (prodR (opF sumR h)) (cutR XL) XL minusS 3 n (i + 1) (i + 1) ((XL[i]?.map textV).getD [] == minusS)).map fun r => single 2 (D.map Ex.c ++ E9 :: r) from by
          rw [hY.out, cutG_piece HNC.out HR.out, Option.map_map, hE9]
          rfl)
        clear hY HR HNC H2P ca0 ca1 ca2 ca3 ca4 fca0 fca1 fca2 fca3 fca4 lca
        go_upto_if 76 with fail
        go_cut [] from 77 to 79 (fun wx => ∃ (yk yn yd yu : Int) (yoa : Option Addr) (yL yc : Nat), Hid (Below wr.heap.size wr wx) ∧ Hid (Blk wx g9 27 #[.int .i64 yk, .int .i64 yn, .int .i64 yd, .int .i64 yu, .slice yoa yL yc]) ∧ Hid (isEx (fun b => b < wr.heap.size ∨ b = g9) E9 (.agg #[.int .i64 yk, .int .i64 yn, .int .i64 yd, .int .i64 yu, .slice yoa yL yc]) wx))
        case first =>
          cases ov with
          | false =>
            have e9 : E = E9 := by rw [← hE9]; rfl
            clear hE9
            go_wp2_with fail
            go_meet
            exact ⟨vk, vn, vd, vu, voa, vL, vc, HWP, H9, Lib.hid (by rw [← e9]; exact HE.out.2 E rfl)⟩
          | true =>
            have e9 : Et.mk 3 0 0 0 [E] = E9 := by rw [← hE9]; rfl
            obtain ⟨x2, hx2, hxv, hxc, hxs⟩ := HE.out.2 E rfl
            have hxl2 := xcells_of hxv
            have h9B := H9.out.lt
            have hrp := HWP.out.size
            have hpu := grownBy_puts [.int .i64 3, .int .i64 0, .int .i64 0, .int .i64 0, .slice (some ⟨wp.heap.size, 0, none⟩) 1 1] wp g9 0
            have hm := turned9 (kk := 3) (cs := [.int .i64 3, .int .i64 0, .int .i64 0, .int .i64 0, .slice (some ⟨wp.heap.size, 0, none⟩) 1 1]) (V := #[.int .i64 vk, .int .i64 vn, .int .i64 vd, .int .i64 vu, .slice voa vL vc]) hxl2 rfl h9B hrp (i64_small _ (by decide)) hxs
            have hbm := (below_far HWP.out hpu (fun k e => by have e := Option.some.inj e; omega)).alloc (by rw [puts_size]; omega) (.cells #[.int .i64 vk, .int .i64 vn, .int .i64 vd, .int .i64 vu, .slice voa vL vc] 27)
            simp only [puts, Nat.zero_add, Nat.reduceAdd] at hm hbm
            have HXM := Lib.hid (And.intro hm (And.intro hxc e9))
            have HBM := Lib.hid hbm
            have H9M := Lib.hid ((H9.out.put5 (.int .i64 3) (.int .i64 0) (.int .i64 0) (.int .i64 0) (.slice (some ⟨wp.heap.size, 0, none⟩) 1 1)).old (.cells #[.int .i64 vk, .int .i64 vn, .int .i64 vd, .int .i64 vu, .slice voa vL vc] 27))
            have h9 := H9.out
            have cg0 : wp.cell? ⟨g9, 0, none⟩ = some (.int .i64 vk) := (h9).cell 0
            have fcg0 := (h9).frozen 0
            have cg1 : wp.cell? ⟨g9, 1, none⟩ = some (.int .i64 vn) := (h9).cell 1
            have fcg1 := (h9).frozen 1
            have cg2 : wp.cell? ⟨g9, 2, none⟩ = some (.int .i64 vd) := (h9).cell 2
            have fcg2 := (h9).frozen 2
            have cg3 : wp.cell? ⟨g9, 3, none⟩ = some (.int .i64 vu) := (h9).cell 3
            have fcg3 := (h9).frozen 3
            have cg4 : wp.cell? ⟨g9, 4, none⟩ = some (.slice voa vL vc) := (h9).cell 4
            have fcg4 := (h9).frozen 4
            have lcg := (h9).lt
            clear hE9 hxl2 hxv hxc hxs e9 hpu h9 hm hbm
            go_wp2_with fail
            go_meet
            exact ⟨3, 0, 0, 0, some ⟨wp.heap.size, 0, none⟩, 1, 1, HBM, H9M, Lib.hid ⟨_, _, rfl, by rw [Ex.c_mk, List.map_cons, List.map_nil, HXM.out.2.1]; exact HXM.out.2.2, HXM.out.1⟩⟩
        obtain ⟨yk, yn, yd, yu, yoa, yL, yc, hwx, h9x, hex⟩ := hcut
        obtain ⟨x9, hx9, hxv, hxc, hxs⟩ := hex.out
        have HXL := Lib.hid (And.intro (xcells_of hxv) (And.intro hxc hxs))
        have h9 := h9x.out
        have cg0 : wc.cell? ⟨g9, 0, none⟩ = some (.int .i64 yk) := (h9).cell 0
        have fcg0 := (h9).frozen 0
        have cg1 : wc.cell? ⟨g9, 1, none⟩ = some (.int .i64 yn) := (h9).cell 1
        have fcg1 := (h9).frozen 1
        have cg2 : wc.cell? ⟨g9, 2, none⟩ = some (.int .i64 yd) := (h9).cell 2
        have fcg2 := (h9).frozen 2
        have cg3 : wc.cell? ⟨g9, 3, none⟩ = some (.int .i64 yu) := (h9).cell 3
        have fcg3 := (h9).frozen 3
        have cg4 : wc.cell? ⟨g9, 4, none⟩ = some (.slice yoa yL yc) := (h9).cell 4
        have fcg4 := (h9).frozen 4
        have lcg := (h9).lt
        have hOx := Lib.hid (owns_belowW hO.out hwx.out)
        have hSx := Lib.hid (show ∃ hh, Safe (fun b => b < w7.heap.size ∨ v.ownBlock = some b) wc fun w => ∀ x ∈ D, ExIn w hh x by obtain ⟨hh, hs⟩ := hS.out; exact ⟨hh, hs.below hwx.out⟩)
        have hBx := Lib.hid (below_far hb.out (grownBy_of_below hwx.out none) (fun _ e => by cases e))
        have hrx := hwx.out.size
        clear hxv hxc hxs hex h9 hE9 HE h9x HWP H9
        go_upto_if 84 with (at_builtin; refine wpList_add elExpr rfl _ _ rfl rfl (hOx.out.alloc _) (by simp; omega) (Blk.new wc _ _) 1 rfl rfl (by simp [Value.oneCell']) (by omega) (by omega) ?_; intro gg cap3 wA hoA hgA hatA hvbA; have HA := Lib.hid (And.intro hoA (And.intro hgA (And.intro hatA hvbA))); clear hoA hgA hatA hvbA)
        have HP := Lib.hid (row_put (B3 := wr.heap.size) hBx.out HVB.out h7r hrx hSx.out (HXL.out.2.2.anti fun b hb _ => Or.inl hb) HA.out.1 HXL.out.1 (show World.grownBy _ _ v.ownBlock from HA.out.2.1) (show v.ownBlock = some gg ∨ _ from HA.out.2.2.1))
        have HXC := Lib.hid HXL.out.2.1
        clear HA hSx hOx HXL hS hO HVB cg0 cg1 cg2 cg3 cg4 fcg0 fcg1 fcg2 fcg3 fcg4 lcg
        obtain ⟨ov2, hov⟩ : ∃ ov2, (if ct = true then ((XL[i]?.map textV).getD [] == minusS) else ov) = ov2 := ⟨_, rfl⟩
        have HOV := Lib.hid (show ov2 = ((XL[i]?.map textV).getD [] == minusS) ∨ n = 0 from by
          by_cases h1 : i < N
          · exact Or.inl (by rw [← hov, if_pos (HWAYS.out h1)])
          · exact Or.inr (by omega))
        have HOW := Lib.hid hov
        clear hov
        go_cut [6] from 85 to 91 (fun s wx => s = .bool ov2 ∧ wx = wA)
        case first =>
          cases ct with
          | true =>
            have h1 : i < N := by
              rcases Nat.lt_or_ge i N with h | h
              · exact h
              · have := HCT.out
                rw [cutR_out (by rw [HN.out.2.2]; exact h)] at this
                cases this
            have gj : decide ((i : Int) < (N : Int)) = true := by simpa using h1
            have gjn : decide (i < N) = true := by simpa using h1
            have HW := Lib.hid (HS.out.below HP.out.1)
            have hil : i < l.length := by rw [HN.out.1]; exact h1
            have hli : l[i]? = some l[i] := List.getElem?_eq_getElem hil
            obtain ⟨rfl, hbl⟩ := HW.out.sl.lies (by omega)
            obtain ⟨x, hx⟩ : ∃ x, l[i] = x := ⟨_, rfl⟩
            rw [hx] at hli
            have hxl : XL[i]? = some x.c := by rw [← HN.out.2.1, List.getElem?_map, hli]; rfl
            have hvs := HW.out
            obtain ⟨t, koa, kb, ko, kcap, kids⟩ := x
            obtain ⟨K, hK⟩ : ∃ K, kids.length = K := ⟨_, rfl⟩
            have f0 := hvs.cell hli (j := 0) rfl
            have f1 := hvs.cell hli (j := 1) rfl
            have f2 := hvs.cell hli (j := 2) rfl
            have f3 := hvs.cell hli (j := 3) rfl
            have f4 := hvs.cell hli (j := 4) rfl
            have f5 := hvs.cell hli (j := 5) rfl
            have f6 := hvs.cell hli (j := 6) rfl
            rw [Nat.add_zero] at f0
            rw [hK] at f6
            obtain ⟨tk, tt, ⟨tn, td⟩, ti, tid⟩ := t
            rw [Vl.c_mk] at hxl
            have hsb : (tt == [45]) = ov2 := by rw [← HOW.out, if_pos rfl, hxl]; rfl
            clear hvs hli hil hx hxl hK
            go_wp2_with fail
            go_meet
            exact ⟨by first | rfl | rw [hsb], rfl⟩
          | false =>
            have hsb : ov = ov2 := by rw [← HOW.out]; rfl
            go_wp2_with fail
            go_meet
            exact ⟨by first | rfl | rw [hsb], rfl⟩
        obtain ⟨rfl, e⟩ := hcut
        subst e
        go_wp2_with fail
        go_roundg (N + 1 - (i + 1))
        case measure => omega
        case rel =>
          obtain ⟨a1, a2, a3⟩ := HP.out
          refine ⟨i + 1, i + 1, n, ov2, D ++ [x9], _, rfl, by go_num, rfl, by go_num, Nat.le_refl _, by omega, by rw [List.length_append, List.length_singleton]; omega, by omega, Lib.hid a1, Lib.hid ?_, Lib.hid a3, Lib.hid ?_, Nat.le_refl _⟩
          · rw [List.length_append, List.length_singleton] at a2 ⊢
            exact a2
          · rw [HYP.out, List.map_append, List.map_cons, List.map_nil, HXC.out]
            rcases HOV.out with h | h
            · rw [h]
              simp only [List.append_assoc, List.singleton_append]
            · subst h
              simp only [cutG, Option.map_some, List.append_assoc, List.singleton_append]
    · have hiE : i = N + 1 := by omega
      have gi : decide ((i : Int) ≤ (N : Int)) = false := by simp; omega
      have gin : decide (i ≤ N) = false := by simp; omega
      obtain rfl : n = 0 := by omega
      have hYe : Y = some (single 2 (D.map Ex.c)) := by rw [hY.out]; simp [cutG]
      have HYE := Lib.hid hYe
      obtain ⟨voa, vcap, gv, rfl, hsl, hpos⟩ := sl_of_own hO.out
      have h2r := H27.out.below hb.out H27.out.lt
      have ca0 : wr.cell? ⟨g2, 0, none⟩ = some (.int .i64 0) := (h2r).cell 0
      have fca0 := (h2r).frozen 0
      have ca1 : wr.cell? ⟨g2, 1, none⟩ = some (.int .i64 0) := (h2r).cell 1
      have fca1 := (h2r).frozen 1
      have ca2 : wr.cell? ⟨g2, 2, none⟩ = some (.int .i64 0) := (h2r).cell 2
      have fca2 := (h2r).frozen 2
      have ca3 : wr.cell? ⟨g2, 3, none⟩ = some (.int .i64 0) := (h2r).cell 3
      have fca3 := (h2r).frozen 3
      have ca4 : wr.cell? ⟨g2, 4, none⟩ = some (.slice none 0 0) := (h2r).cell 4
      have fca4 := (h2r).frozen 4
      have lca := (h2r).lt
      have H2R := Lib.hid h2r
      clear h2r hYe hY HY1
      by_cases hD1 : D.length = 1
      · obtain ⟨x, rfl⟩ := List.length_eq_one_iff.1 hD1
        obtain ⟨rfl, hgl⟩ := hsl.lies (by simp)
        have HEX := Lib.hid (show isEx (· < w7.heap.size) x.c (xv x) wr from by
          obtain ⟨hh, hs⟩ := hS.out
          exact ⟨x, hh, rfl, rfl, (hs.mono fun w hw => hw x (List.mem_singleton.2 rfl)).anti fun b hb _ => Or.inl hb⟩)
        have HXC := Lib.hid (show Y = some x.c from HYE.out)
        obtain ⟨k', n', d', u', oa', b', o', cap', kids'⟩ := x
        obtain ⟨K', hK'⟩ : ∃ K', kids'.length = K' := ⟨_, rfl⟩
        have f0 : wr.cell? ⟨gv, 0, none⟩ = some (.int .i64 k') := by have := hsl.cell 0 _ rfl; simpa using this
        have f1 : wr.cell? ⟨gv, 1, none⟩ = some (.int .i64 n') := by have := hsl.cell 1 _ rfl; simpa using this
        have f2 : wr.cell? ⟨gv, 2, none⟩ = some (.int .i64 d') := by have := hsl.cell 2 _ rfl; simpa using this
        have f3 : wr.cell? ⟨gv, 3, none⟩ = some (.int .i64 u') := by have := hsl.cell 3 _ rfl; simpa using this
        have f4 : wr.cell? ⟨gv, 4, none⟩ = some (.slice oa' K' cap') := by have := hsl.cell 4 _ rfl; rw [← hK']; simpa using this
        have hxv : xv (Ex.mk k' n' d' u' oa' b' o' cap' kids') = .agg #[.int .i64 k', .int .i64 n', .int .i64 d', .int .i64 u', .slice oa' K' cap'] := by rw [← hK']; rfl
        rw [hxv] at HEX
        clear hxv hK' hsl hO hS HYE hpos
        simp only [List.length_singleton] at *
        go_wp2_with fail
        have hputs := (H2R.out).put5 (.int .i64 k') (.int .i64 n') (.int .i64 d') (.int .i64 u') (.slice oa' K' cap')
        refine bodyPost_ret (v := .tuple #[.agg #[.int .i64 k', .int .i64 n', .int .i64 d', .int .i64 u', .slice oa' K' cap'], .bool true]) ?_ rfl ?_
        · refine ret_ex2 Tryd.results51 ?_ ?_ hputs rfl
          all_goals rfl
        · exact HFIN.out _ _ wr _ (by rw [HXC.out]; rfl) ⟨_, _, _, _, _, _, _, rfl⟩ (fun E hE => by rw [HXC.out] at hE; injection hE with hE; subst hE; exact HEX.out) hb.out (grownBy_puts [.int .i64 k', .int .i64 n', .int .i64 d', .int .i64 u', .slice oa' K' cap'] wr g2 0)
      · have g1 : ((D.length : Int) == 1) = false := by simp; omega
        have hex : isEx (· < w7.heap.size) (.mk 2 0 0 0 (D.map Ex.c)) (.agg #[.int .i64 2, .int .i64 0, .int .i64 0, .int .i64 0, .slice voa D.length vcap]) wr := by
          obtain ⟨hh, hs⟩ := hS.out
          refine ⟨.mk 2 0 0 0 voa gv 0 vcap D, hh + 1, rfl, Ex.c_mk _ _ _ _ _ _ _ _ _, ExIn.made (i64_small _ (by decide)) (by unfold Is64; decide) (i64_small _ (by decide)) (by omega) hsl (fun hp hb => ?_) (hs.anti fun b hb _ => Or.inl hb)⟩
          have := hpos hp
          have hb : gv < w7.heap.size := hb
          omega
        have HXC := Lib.hid (show Y = some (.mk 2 0 0 0 (D.map Ex.c)) from by
          rw [HYE.out]
          match D, hD1 with
          | [], _ => rfl
          | [x], e => exact absurd rfl e
          | x :: y :: r, _ => rfl)
        obtain ⟨L, hL⟩ : ∃ L, D.length = L := ⟨_, rfl⟩
        rw [hL] at hex g1 hDi
        have HEX := Lib.hid hex
        simp only [hL]
        clear hsl hO hS HYE hpos hD1 hex hL
        go_wp2_with fail
        have hputs := (H2R.out).put5 (.int .i64 2) (.int .i64 0) (.int .i64 0) (.int .i64 0) (.slice voa L vcap)
        refine bodyPost_ret (v := .tuple #[.agg #[.int .i64 2, .int .i64 0, .int .i64 0, .int .i64 0, .slice voa L vcap], .bool true]) ?_ rfl ?_
        · refine ret_ex2 Tryd.results51 ?_ ?_ hputs rfl
          all_goals rfl
        · exact HFIN.out _ _ wr _ (by rw [HXC.out]; rfl) ⟨_, _, _, _, _, _, _, rfl⟩ (fun E hE => by rw [HXC.out] at hE; injection hE with hE; subst hE; exact HEX.out) hb.out (grownBy_puts [.int .i64 2, .int .i64 0, .int .i64 0, .int .i64 0, .slice voa L vcap] wr g2 0)

end Go.Proofs.YtplnhjmomomphaaDoor

namespace Go.Proofs.YtplnhjmomomphaaDoor
set_option linter.unusedVariables false
set_option linter.unusedSimpArgs false
open Go.RowKit

/-- all heights -/
theorem ref_all : ∀ h, ROneAt h ∧ RSumAt h
  | 0 => by
    have h0 : ROneAt 0 := fun v w hv => hv.elim
    exact ⟨h0, rsum_step 0 (rprod_step 0 h0 (fun h' e => by omega))⟩
  | h + 1 => by
    have ih := ref_all h
    have h1 := rone_step h ih.2
    exact ⟨h1, rsum_step (h + 1) (rprod_step (h + 1) h1 (fun h' e => by
      obtain rfl : h = h' := (by omega)
      exact ih.2))⟩
theorem r11parse_any (h : Nat) (l : List Vl) (oa : Option Addr) (cap b o : Nat) (w : World) (hs : VsIn w h oa cap b o l) :
    Calls Tryd.prog 10 #[.slice oa l.length cap] w fun e w' => retP (· < w.heap.size) (parseF sumR h (l.map Vl.c)) e w' ∧ Below w.heap.size w w' := rparse_step h (ref_all h).1 l oa cap b o w hs

end Go.Proofs.YtplnhjmomomphaaDoor

namespace Go.Proofs.YtplnhjmomomphaaDoor
set_option linter.unusedVariables false
set_option linter.unusedSimpArgs false
open Go.RowKit

set_option maxRecDepth 20000 in
set_option maxHeartbeats 4000000 in
theorem law_calcReads (l : List UInt8) (oa : Option Addr) (cap b o : Nat) (w : World) (hs : Sl w oa l.length cap b o 1 (bytesV l)) (hK : Kd w) :
    Calls Tryd.prog 4 #[.slice oa l.length cap] w fun e w' => e = .returned (.bool true) ∧ Below w.heap.size w w' := by
  have hcl := hs.le
  have hcm := hs.max
  unfold maxLen at hcm
  by_cases h16 : 16384 < l.length
  · have g16 : decide ((16384 : Int) < (l.length : Int)) = true := by simp; omega
    have HA := Lib.hid (awakeK_any w hK)
    generalize l.length = N at *
    clear hs hK
    go_enter Tryd.func4, Tryd.ntmps4
    go_wp2_with fail
    ((with_reducible refine HA.out.mono ?_); rintro e w2 ⟨rfl, hb2⟩)
    have HB2 := Lib.hid hb2
    clear hb2
    go_wp2_with fail
    go_ret
    exact ⟨ret_bool rfl, HB2.out⟩
  have g16 : decide ((16384 : Int) < (l.length : Int)) = false := by simp; omega
  have h64 := bytes_64 (b := l) (by omega)
  have HB := Lib.hid (bytes_any l oa cap b o w hs hK (by omega))
  have HV := Lib.hid (fun oa c b o w hs => values_any (bytesF l) oa c b o w hs h64.1 h64.2)
  have HK := Lib.hid hK
  obtain ⟨N0, hN0⟩ : ∃ N, l.length = N := ⟨_, rfl⟩
  rw [hN0] at g16 hcl HB ⊢
  generalize bytesF l = T at *
  clear hs hK h64 hN0 h16
  go_enter Tryd.func4, Tryd.ntmps4
  go_wp2_with fail
  ((with_reducible refine HB.out.mono ?_); rintro e w0 ⟨v, rfl, hR⟩)
  obtain ⟨ya, yc, yb, rfl, hsl, _⟩ := hR.sl
  have HB0 := Lib.hid hR.below
  have HV2 := Lib.hid (HV.out ya yc yb 0 w0 hsl)
  clear hR hsl HB HV
  go_wp2_with fail
  ((with_reducible refine HV2.out.mono ?_); rintro e w1 ⟨⟨v, rfl, h, oa, cap, b, o, l, rfl, hc, hvs⟩, hb1⟩)
  have HB1 := Lib.hid (below_far HB0.out (grownBy_of_below hb1 none) (fun _ e => by cases e))
  have hs := hvs.here
  have h1 := cparse_any h l oa cap b o w1 hs
  have h2 := fun w2 (hb : Below w1.heap.size w1 w2) => r11parse_any h l oa cap b o w2 (hs.below hb)
  rw [parse_both] at h1
  obtain ⟨⟨Q, q⟩, hQ⟩ : ∃ Q, parseF sumR h (l.map Vl.c) = Q := ⟨_, rfl⟩
  simp only [hQ] at h1 h2
  have hcl1 := hs.sl.le
  have hcm1 := hs.sl.max
  unfold maxLen at hcm1
  obtain ⟨N, hN⟩ : ∃ N, l.length = N := ⟨_, rfl⟩
  simp only [hN] at h1 h2 hcl1 ⊢
  have H1 := Lib.hid h1
  have H2 := Lib.hid h2
  clear h1 h2 hQ hN hs hvs hc hb1 HV2 HB0
  go_wp2_with fail
  ((with_reducible refine H1.out.mono ?_); rintro e w2 ⟨⟨ev, rfl, hx⟩, hb2⟩)
  obtain ⟨ak, an, ad, au, aoa, aL, ac, rfl⟩ := hx.e5
  have HX2 := Lib.hid hx
  have HB2 := Lib.hid hb2
  clear hx hb2 H1
  go_upto_region 5 with fail
  have h3 := Blk.new w2 27 #[.int .i64 ak, .int .i64 an, .int .i64 ad, .int .i64 au, .slice aoa aL ac]
  have hb3 := below_box w2 (.cells #[.int .i64 ak, .int .i64 an, .int .i64 ad, .int .i64 au, .slice aoa aL ac] 27)
  have HX3 := Lib.hid (HX2.out.below hb3)
  have HB3 := Lib.hid (below_far HB2.out (grownBy_of_below hb3 none) (fun _ e => by cases e))
  have H33 := Lib.hid h3
  clear h3 hb3 HX2 HB2
  generalize w2.heap.size = g3 at *
  generalize w2.alloc _ = w3 at *
  have HC2 := Lib.hid (H2.out w3 HB3.out)
  go_wp2_with fail
  ((with_reducible refine HC2.out.mono ?_); rintro e w4 ⟨⟨fv, rfl, hy⟩, hb4⟩)
  obtain ⟨yk, yn, yd, yu, yoa, yL, yc, rfl⟩ := hy.e5
  have HX4 := Lib.hid (HX3.out.below hb4)
  have H34 := Lib.hid (H33.out.below hb4 H33.out.lt)
  have HB4 := Lib.hid (below_far HB3.out (grownBy_of_below hb4 none) (fun _ e => by cases e))
  have HY4 := Lib.hid hy
  clear hy hb4 HX3 H33 HB3 HC2 H2
  go_upto_region 6 with fail
  have hb5 := below_box w4 (.cells #[.int .i64 yk, .int .i64 yn, .int .i64 yd, .int .i64 yu, .slice yoa yL yc] 27)
  have h5 := Blk.new w4 27 #[.int .i64 yk, .int .i64 yn, .int .i64 yd, .int .i64 yu, .slice yoa yL yc]
  have h3 := H34.out.old (.cells #[.int .i64 yk, .int .i64 yn, .int .i64 yd, .int .i64 yu, .slice yoa yL yc] 27)
  have HB5 := Lib.hid (below_far HB4.out (grownBy_of_below hb5 none) (fun _ e => by cases e))
  have HSM := Lib.hid (rsame_is (HX4.out.below hb5) (HY4.out.below hb5))
  have HAW := Lib.hid (fun w' (hb : Below w.heap.size w w') => awakeK_any w' (HK.out.below hb))
  clear hb5 HX4 HY4 HB4 H34
  generalize w4.heap.size = g5 at *
  generalize w4.alloc _ = w5 at *
  have ca0 : w5.cell? ⟨g3, 0, none⟩ = some (.int .i64 ak) := (h3).cell 0
  have fca0 := (h3).frozen 0
  have ca1 : w5.cell? ⟨g3, 1, none⟩ = some (.int .i64 an) := (h3).cell 1
  have fca1 := (h3).frozen 1
  have ca2 : w5.cell? ⟨g3, 2, none⟩ = some (.int .i64 ad) := (h3).cell 2
  have fca2 := (h3).frozen 2
  have ca3 : w5.cell? ⟨g3, 3, none⟩ = some (.int .i64 au) := (h3).cell 3
  have fca3 := (h3).frozen 3
  have ca4 : w5.cell? ⟨g3, 4, none⟩ = some (.slice aoa aL ac) := (h3).cell 4
  have fca4 := (h3).frozen 4
  have lca := (h3).lt
  have cb0 : w5.cell? ⟨g5, 0, none⟩ = some (.int .i64 yk) := (h5).cell 0
  have fcb0 := (h5).frozen 0
  have cb1 : w5.cell? ⟨g5, 1, none⟩ = some (.int .i64 yn) := (h5).cell 1
  have fcb1 := (h5).frozen 1
  have cb2 : w5.cell? ⟨g5, 2, none⟩ = some (.int .i64 yd) := (h5).cell 2
  have fcb2 := (h5).frozen 2
  have cb3 : w5.cell? ⟨g5, 3, none⟩ = some (.int .i64 yu) := (h5).cell 3
  have fcb3 := (h5).frozen 3
  have cb4 : w5.cell? ⟨g5, 4, none⟩ = some (.slice yoa yL yc) := (h5).cell 4
  have fcb4 := (h5).frozen 4
  have lcb := (h5).lt
  clear h3 h5
  go_wp2_with fail
  ((with_reducible refine HSM.out.mono ?_); rintro e w6 ⟨rfl, hb6⟩)
  have HB6 := Lib.hid (below_far HB5.out (grownBy_of_below hb6 none) (fun _ e => by cases e))
  have HA6 := Lib.hid (HAW.out w6 (below_far HB1.out (grownBy_of_below HB6.out none) (fun _ e => by cases e)))
  clear hb6
  go_wp2_with fail
  ((with_reducible refine HA6.out.mono ?_); rintro e w7 ⟨rfl, hb7⟩)
  have HB7 := Lib.hid (below_far HB6.out (grownBy_of_below hb7 none) (fun _ e => by cases e))
  clear hb7
  go_wp2_with fail
  go_ret
  exact ⟨ret_bool rfl, below_far HB1.out (grownBy_of_below HB7.out none) (fun _ e => by cases e)⟩

end Go.Proofs.YtplnhjmomomphaaDoor
