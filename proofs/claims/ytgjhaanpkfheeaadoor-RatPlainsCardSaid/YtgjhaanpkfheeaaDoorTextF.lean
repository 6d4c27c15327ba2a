/- Fractions as texts: the library's decimal numeral at this program; the reference's Text. -/
import Derived.Test.YtgjhaanpkfheeaaDoorTextT
import Derived.Test.YtgjhaanpkfheeaaDoorRatF
import Derived.Shelf.Strconv.Itoa4
import Derived.Lib.LaidTab
import Derived.Lib.AppendIntMem
import Derived.WalkSmall
namespace Go.Proofs.YtgjhaanpkfheeaaDoor
set_option linter.unusedVariables false
set_option linter.unusedSimpArgs false
open Go.RowKit Go.Shelf

set_option maxRecDepth 100000 in
def Tryd.laysFI_ren : Ren := ⟨fun x => if x = 173 then 31 else if x = 246 then 54 else if x = 283 then 76 else if x = 284 then 77 else if x = 285 then 78 else if x = 286 then 79 else if x = 129 then 88 else if x = 317 then 89 else if x = 318 then 90 else if x = 319 then 91 else if x = 320 then 92 else if x = 337 then 98 else if x = 338 then 73 else x, fun x => if x = 2 then 2 else if x = 3 then 3 else if x = 9 then 9 else if x = 4 then 4 else if x = 171 then 103 else if x = 0 then 0 else if x = 53 then 44 else if x = 37 then 59 else if x = 5 then 5 else if x = 173 then 105 else if x = 212 then 117 else if x = 51 then 110 else if x = 20 then 20 else if x = 213 then 118 else if x = 46 then 87 else if x = 232 then 133 else if x = 233 then 114 else x, fun x => if x = 17 then 4 else if x = 18 then 8 else if x = 19 then 3 else x⟩
set_option maxRecDepth 100000 in
theorem Tryd.laysFI : LaysM.n173 Tryd.prog Tryd.laysFI_ren := {
  mixed := (by kernel_rfl),
  f129 := Tryd.func88.trans (congrArg some (by kernel_rfl)),
  f173 := Tryd.func31.trans (congrArg some (by kernel_rfl)),
  f246 := Tryd.func54.trans (congrArg some (by kernel_rfl)),
  f283 := Tryd.func76.trans (congrArg some (by kernel_rfl)),
  f284 := Tryd.func77.trans (congrArg some (by kernel_rfl)),
  f285 := Tryd.func78.trans (congrArg some (by kernel_rfl)),
  f286 := Tryd.func79.trans (congrArg some (by kernel_rfl)),
  f317 := Tryd.func89.trans (congrArg some (by kernel_rfl)),
  f318 := Tryd.func90.trans (congrArg some (by kernel_rfl)),
  f319 := Tryd.func91.trans (congrArg some (by kernel_rfl)),
  f320 := Tryd.func92.trans (congrArg some (by kernel_rfl)),
  f337 := Tryd.func98.trans (congrArg some (by kernel_rfl)),
  f338 := Tryd.func73.trans (congrArg some (by kernel_rfl)),
  t0 := Tryd.underlying0,
  a0 := Tryd.isAgg0,
  z0 := Tryd.sizeOf0,
  v0 := Tryd.zeroValue0,
  t2 := Tryd.underlying2,
  a2 := Tryd.isAgg2,
  z2 := Tryd.sizeOf2,
  v2 := Tryd.zeroValue2,
  t3 := Tryd.underlying3,
  a3 := Tryd.isAgg3,
  z3 := Tryd.sizeOf3,
  v3 := Tryd.zeroValue3,
  t4 := Tryd.underlying4,
  a4 := Tryd.isAgg4,
  z4 := Tryd.sizeOf4,
  v4 := Tryd.zeroValue4,
  t5 := Tryd.underlying5,
  a5 := Tryd.isAgg5,
  z5 := Tryd.sizeOf5,
  v5 := Tryd.zeroValue5,
  t9 := Tryd.underlying9,
  a9 := Tryd.isAgg9,
  z9 := Tryd.sizeOf9,
  v9 := Tryd.zeroValue9,
  t20 := Tryd.underlying20,
  a20 := Tryd.isAgg20,
  z20 := Tryd.sizeOf20,
  v20 := Tryd.zeroValue20,
  t37 := Tryd.underlying59,
  a37 := Tryd.isAgg59,
  z37 := Tryd.sizeOf59,
  v37 := Tryd.zeroValue59,
  t46 := Tryd.underlying87,
  a46 := Tryd.isAgg87,
  z46 := Tryd.sizeOf87,
  v46 := Tryd.zeroValue87,
  t51 := Tryd.underlying110,
  a51 := Tryd.isAgg110,
  z51 := Tryd.sizeOf110,
  v51 := Tryd.zeroValue110,
  t53 := Tryd.underlying44,
  a53 := Tryd.isAgg44,
  z53 := Tryd.sizeOf44,
  v53 := Tryd.zeroValue44,
  t171 := Tryd.underlying103,
  a171 := Tryd.isAgg103,
  z171 := Tryd.sizeOf103,
  v171 := Tryd.zeroValue103,
  t173 := Tryd.underlying105,
  a173 := Tryd.isAgg105,
  z173 := Tryd.sizeOf105,
  v173 := Tryd.zeroValue105,
  t212 := Tryd.underlying117,
  a212 := Tryd.isAgg117,
  z212 := Tryd.sizeOf117,
  v212 := Tryd.zeroValue117,
  t213 := Tryd.underlying118,
  a213 := Tryd.isAgg118,
  z213 := Tryd.sizeOf118,
  t232 := Tryd.underlying133,
  a232 := Tryd.isAgg133,
  z232 := Tryd.sizeOf133,
  v232 := Tryd.zeroValue133,
  t233 := Tryd.underlying114,
  a233 := Tryd.isAgg114,
  z233 := Tryd.sizeOf114,
  v233 := Tryd.zeroValue114,
  g17 := (by kernel_rfl),
  g18 := (by kernel_rfl),
  g19 := (by kernel_rfl),
  i0 := (by kernel_rfl),
  i2 := (by kernel_rfl),
  i3 := (by kernel_rfl),
  i4 := (by kernel_rfl),
  i5 := (by kernel_rfl),
  i9 := (by kernel_rfl),
  i20 := (by kernel_rfl),
  i37 := (by kernel_rfl),
  i46 := (by kernel_rfl),
  i51 := (by kernel_rfl),
  i53 := (by kernel_rfl),
  i171 := (by kernel_rfl),
  i173 := (by kernel_rfl),
  i212 := (by kernel_rfl),
  i232 := (by kernel_rfl),
  i233 := (by kernel_rfl),
  m17 := (by kernel_rfl),
  m18 := (by kernel_rfl),
  m19 := (by kernel_rfl) }

/-- the table of powers of ten -/
def Pow10 (w : World) : Prop := Lib.TabIs Tryd.prog w "internal/strconv.uint64pow10" .u64 Lib.pow10Tab
theorem gPow10 : ∃ g, Tryd.prog.globalNamed "internal/strconv.uint64pow10" = some g := Option.isSome_iff_exists.1 (show (Tryd.prog.globalNamed "internal/strconv.uint64pow10").isSome = true by kernel_rfl)
theorem Pow10.below {w w' : World} (h : Pow10 w) (hb : Below w.heap.size w w') : Pow10 w' := by
  obtain ⟨g, hg⟩ := gPow10
  refine var?_below hb hg ?_ h
  obtain ⟨cs, h2⟩ : ∃ cs, w.var? Tryd.prog "internal/strconv.uint64pow10" = some cs := ⟨_, h⟩
  unfold World.var? at h2
  rw [hg] at h2
  simp only [Option.bind_some] at h2
  rcases Nat.lt_or_ge g w.heap.size with h3 | h3
  · exact h3
  · rw [Array.getElem?_eq_none h3] at h2
    cases h2

theorem fmt_any (n : Int) (w : World) (h0 : -9223372036854775808 ≤ n) (h1 : n ≤ 9223372036854775807) (ht : Pow10 w) :
    Calls Tryd.prog 31 #[.int .i64 n, .int .i64 10] w fun e w' => e = .returned (.string ⟨(Lib.itoa n).toArray⟩) ∧ Below w.heap.size w w' :=
  (Any.strconv_FormatInt_10 Tryd.laysFI n h0 h1 w ht).mono fun e w' ⟨he, k, os, hw⟩ => ⟨he, by rw [hw]; exact Lib.below_grow _ _ (Nat.le_refl _) _ _⟩

theorem itoa_text (n : Int) : Lib.itoa n = if n < 0 then 45 :: Lib.decDigits n.natAbs else Lib.decDigits n.natAbs := by
  unfold Lib.itoa
  split
  · rfl
  · rw [show n.toNat = n.natAbs by omega]

set_option maxRecDepth 20000 in
set_option maxHeartbeats 4000000 in
theorem rtext_any (r : Rt) (w : World) (h64 : Is64 r) (hp : Pow10 w) :
    Calls Tryd.prog 15 #[rv r] w fun e w' => e = .returned (.string ⟨(textF r).toArray⟩) ∧ Below w.heap.size w w' := by
  have hs := fun w => is_any r w h64
  have HT := Lib.hid (show textF r = if sureB r then Lib.itoa r.1 ++ (if 1 < r.2 then 47 :: Lib.decDigits r.2.toNat else []) else overT by rw [itoa_text]; rfl)
  generalize textF r = T at *
  obtain ⟨b1, b2, b3, b4⟩ := h64
  have HP := Lib.hid (fun wx (hb : Below w.heap.size w wx) => hp.below hb)
  clear hp
  cases hb : sureB r with
  | false =>
    rw [hb] at hs HT
    have HS := Lib.hid hs
    obtain ⟨n, d⟩ := r
    clear hs hb
    go_enter Tryd.func15, Tryd.ntmps15
    go_wp2_with fail
    ((with_reducible refine (HS.out _).mono ?_); rintro e w' ⟨rfl, hbw⟩)
    obtain ⟨m, rfl⟩ := grow_mk hbw
    clear hbw
    go_wp2_with fail
    go_ret
    exact ⟨by rw [HT.out]; rfl, below_grow (below_box _ _) m⟩
  | true =>
    have hd := (sure_parts hb).1
    rw [hb] at hs HT
    rw [if_pos rfl] at HT
    have HS := Lib.hid hs
    obtain ⟨n, d⟩ := r
    simp only at *
    have HN := Lib.hid (fun wx hb => fmt_any n wx b1 b2 (HP.out wx hb))
    have HE := Lib.hid (fun wx hb => fmt_any d wx b3 b4 (HP.out wx hb))
    have ed : Lib.itoa d = Lib.decDigits d.toNat := by unfold Lib.itoa; rw [if_neg (by omega)]
    rw [← ed] at HT
    have l1 : (Lib.itoa n).length ≤ 21 := by
      rw [itoa_text]
      have := Lib.nDigits_le20 n.natAbs (by omega)
      split <;> simp [Lib.decDigits_length] <;> omega
    have l2 : (Lib.itoa d).length ≤ 21 := by
      rw [ed, Lib.decDigits_length]
      have := Lib.nDigits_le20 d.toNat (by omega)
      omega
    clear ed
    generalize Lib.itoa n = D at *
    generalize Lib.itoa d = E at *
    clear hs hb
    have c2 := fun w => run_cat [47] E (by simp; omega) w
    have c3 := fun w => run_cat D (47 :: E) (by simp; omega) w
    simp only [List.cons_append, List.nil_append] at c2
    by_cases hd1 : 1 < d
    · have gd : decide ((1 : Int) < d) = true := by simpa using hd1
      rw [if_pos hd1] at HT
      go_enter Tryd.func15, Tryd.ntmps15
      go_wp2_with fail
      ((with_reducible refine (HS.out _).mono ?_); rintro e w' ⟨rfl, hbw⟩)
      obtain ⟨m, rfl⟩ := grow_mk hbw
      clear hbw
      go_wp2_with fail
      ((with_reducible refine (HN.out _ (below_grow (below_box _ _) m)).mono ?_); rintro e w' ⟨rfl, hbw⟩)
      obtain ⟨m2, rfl⟩ := grow_mk hbw
      clear hbw
      go_wp2_with fail
      ((with_reducible refine (HE.out _ (by repeat (first | with_reducible exact below_box _ _ | with_reducible refine below_grow ?_ _))).mono ?_); rintro e w' ⟨rfl, hbw⟩)
      obtain ⟨m3, rfl⟩ := grow_mk hbw
      clear hbw
      go_wp2_with fail
      go_ret
      exact ⟨by rw [HT.out]; first | done | rfl | (simp; done), by repeat (first | with_reducible exact below_box _ _ | with_reducible refine below_grow ?_ _)⟩
    · have gd : decide ((1 : Int) < d) = false := by simpa using hd1
      rw [if_neg hd1, List.append_nil] at HT
      go_enter Tryd.func15, Tryd.ntmps15
      go_wp2_with fail
      ((with_reducible refine (HS.out _).mono ?_); rintro e w' ⟨rfl, hbw⟩)
      obtain ⟨m, rfl⟩ := grow_mk hbw
      clear hbw
      go_wp2_with fail
      ((with_reducible refine (HN.out _ (below_grow (below_box _ _) m)).mono ?_); rintro e w' ⟨rfl, hbw⟩)
      obtain ⟨m2, rfl⟩ := grow_mk hbw
      clear hbw
      go_wp2_with fail
      go_ret
      exact ⟨by rw [HT.out]; first | done | rfl | (simp; done), by repeat (first | with_reducible exact below_box _ _ | with_reducible refine below_grow ?_ _)⟩

end Go.Proofs.YtgjhaanpkfheeaaDoor
