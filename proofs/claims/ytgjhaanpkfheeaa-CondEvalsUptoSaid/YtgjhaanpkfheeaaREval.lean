/- What a condition comes to: the reference's word. -/
import Derived.Test.YtgjhaanpkfheeaaEval
namespace Go.Proofs.Ytgjhaanpkfheeaa
set_option linter.unusedVariables false
set_option linter.unusedSimpArgs false
open Go.RowKit

theorem ret_is {k : IntKind} {a c : Int} {oa : Option Addr} {l cp : Nat} (h1 : a = c) : Ending.returned (.tuple #[.int k a, .slice oa l cp]) = .returned (.tuple #[.int k c, .slice oa l cp]) := by rw [h1]

/-- what is told of the leaves, and what stands behind it; or nothing is told -/
def Told (g : Lf → Int) (ls : List Lf) (t R : List Int) : Prop := t = ls.map g ++ R ∨ (t = [] ∧ R = [] ∧ ∀ lf, g lf = 1)

theorem Told.split {g : Lf → Int} {l1 l2 : List Lf} {t R : List Int} (h : Told g (l1 ++ l2) t R) : ∃ R1, Told g l1 t R1 ∧ Told g l2 R1 R := by
  rcases h with h | ⟨h1, h2, h3⟩
  · exact ⟨l2.map g ++ R, Or.inl (by rw [h, List.map_append, List.append_assoc]), Or.inl rfl⟩
  · exact ⟨[], Or.inr ⟨h1, rfl, h3⟩, Or.inr ⟨rfl, h2, h3⟩⟩
theorem Told.nil {g : Lf → Int} {t R : List Int} (h : Told g [] t R) : t = R := by
  rcases h with h | ⟨h1, h2, _⟩
  · simpa using h
  · rw [h1, h2]

theorem flat_drop {kids : List Cd} {i : Nat} {x : Cd} (f : Cd → List Lf) (h : kids[i]? = some x) : (kids.drop i).flatMap f = f x ++ (kids.drop (i + 1)).flatMap f := by
  obtain ⟨hi, rfl⟩ := List.getElem?_eq_some_iff.1 h
  rw [List.drop_eq_getElem_cons hi]
  rfl
theorem leavesC_leaf (h : Nat) (oa : Option Addr) (b o cap : Nat) (kids : List Cd) (lf : Lf) : leavesC (h + 1) (.mk 4 oa b o cap kids lf) = [lf] := by
  unfold leavesC
  rw [if_pos rfl]
theorem leavesC_more (h : Nat) {c : Int} (hc : ¬ c = 4) (oa : Option Addr) (b o cap : Nat) (kids : List Cd) (lf : Lf) : leavesC (h + 1) (.mk c oa b o cap kids lf) = kids.flatMap (leavesC h) := by
  unfold leavesC
  rw [if_neg hc]

/-- the numbers behind the first -/
theorem Ints.tail {w : World} {oa : Option Addr} {len cap b o : Nat} {x : Int} {l : List Int} (h : Ints w oa len cap b o (x :: l)) (oa2 : Option Addr) (hoa : 1 < cap → oa2 = some ⟨b, o + 1, none⟩) : Ints w oa2 l.length (cap - 1) b (o + 1) l := by
  have hl := h.hlen
  have hc := h.hcap
  have hs := h.small
  simp only [List.length_cons] at hl
  refine ⟨rfl, by omega, by omega, fun hp => hoa (by omega), fun _ => h.lt (by omega), fun i y hy => ?_, fun i y hy => h.is64 (i + 1) y (by simpa using hy)⟩
  have := h.c0 (i + 1) y (by simpa using hy)
  rwa [show o + (i + 1) = o + 1 + i by omega] at this


set_option maxRecDepth 20000 in
set_option maxHeartbeats 8000000 in
theorem reval_any (g : Lf → Int) (w0 : World) : ∀ (h f : Nat) (e : Cd) (t R : List Int) (w : World) (toa : Option Addr) (tlen tcap tb tf : Nat), Below w0.heap.size w0 w → CdIn w h e → mayC f e = true → (∀ wx, Below w0.heap.size w0 wx → Ints wx toa tlen tcap tb tf t) → Told g (leavesC h e) t R →
    Calls Try.prog 86 #[cv e, .slice toa tlen tcap] w fun x w' => (∃ (oa2 : Option Addr) (len2 cap2 b2 o2 : Nat), x = .returned (.tuple #[.int .i64 (evalC g h e), .slice oa2 len2 cap2]) ∧ ∀ wx, Below w0.heap.size w0 wx → Ints wx oa2 len2 cap2 b2 o2 R) ∧ Below w.heap.size w w' := by
  intro h
  induction h with
  | zero => exact fun _ _ _ _ _ _ _ _ _ _ _ h => h.elim
  | succ h ih =>
    intro f e t R w toa tlen tcap tb tf hw0 hx hm hI0 hTold
    have hI := hI0 w hw0
    obtain ⟨c, oa, b, o, cap, kids, lf⟩ := e
    obtain ⟨h1, h2, h4, h5, h6, h7, h8⟩ := hx
    have hsm : kids.length ≤ 9223372036854775807 := Nat.le_trans (Nat.le_trans h4 h5) (by decide)
    have hmax : kids.length ≤ maxLen := Nat.le_trans h4 h5
    have HIH := Lib.hid ih
    clear ih
    by_cases hk : c = 4
    · subst hk
      rw [leavesC_leaf] at hTold
      rw [evalC_leaf]
      clear hm h7 h8 HIH h1 h2
      obtain ⟨lk, lt, nm, op, ⟨k', n, d, u, oa', b', o', cap', kids'⟩, wd, vl, an⟩ := lf
      simp only at *
      rw [cv_mk]
      have htl := hI.hlen
      subst htl
      rcases hTold with rfl | ⟨rfl, rfl, h3⟩
      · simp only [List.map_cons, List.map_nil, List.cons_append, List.nil_append] at *
        have hv := hI.is64 0 _ rfl
        generalize g ⟨lk, lt, nm, op, ⟨k', n, d, u, oa', b', o', cap', kids'⟩, wd, vl, an⟩ = G at *
        have e0 := hI.c0 0 _ rfl
        have ha := hI.at_ (by simp)
        have hbl := hI.lt (by simp)
        have hcap := hI.hcap
        have hsm2 := hI.small
        simp only [Nat.add_zero, List.length_cons] at e0 hcap ha
        have hRl : R.length + 1 ≤ 9223372036854775807 := Nat.le_trans hcap (Nat.le_trans hsm2 (by decide))
        have hc64 : tcap ≤ 9223372036854775807 := Nat.le_trans hsm2 (by decide)
        subst ha
        have HT := Lib.hid (fun wx => rtruth_any G wx hv.1 hv.2)
        obtain ⟨TG, hTG⟩ : ∃ TG, tr G = TG := ⟨_, rfl⟩
        rw [hTG] at HT ⊢
        have HI := Lib.hid (fun oa2 hoa wx (hb : Below w0.heap.size w0 wx) => (hI0 wx hb).tail oa2 hoa)
        clear hI hI0 hv hTG hw0
        have hc1 : 1 ≤ tcap := by omega
        have gl : ((R.length : Int) + 1 == 0) = false := by simp; omega
        by_cases l1 : lk = 1
        · subst l1
          rw [if_pos rfl]
          by_cases hc : tcap = 1
          · subst hc
            have hR0 : R = [] := List.eq_nil_of_length_eq_zero (by omega)
            subst hR0
            go_enter Try.func86, Try.ntmps86
            go_wp2_with fail
            refine wp_region_grow (by kernel_rfl) (by kernel_rfl) ?_
            repeat (go_big_quiet_step ((first | (go_at_call 81; exact calls_grow_same (HT.out _)))))
            refine wpQuiet_nil ?_
            rintro _ ⟨m, rfl⟩
            go_wp2_with fail
            go_ret2
            exact ⟨⟨_, _, _, tb, tf + 1, rfl, HI.out _ (fun h => absurd h (by decide))⟩, below_grow (below_box _ _) m⟩
          · obtain ⟨c2, hc2⟩ : ∃ c2, c2 = tcap - 1 := ⟨_, rfl⟩
            go_enter Try.func86, Try.ntmps86
            go_wp2_with fail
            refine wp_region_grow (by kernel_rfl) (by kernel_rfl) ?_
            repeat (go_big_quiet_step ((first | (go_at_call 81; exact calls_grow_same (HT.out _)))))
            refine wpQuiet_nil ?_
            rintro _ ⟨m, rfl⟩
            go_wp2_with fail
            go_ret2
            exact ⟨⟨_, _, _, tb, tf + 1, rfl, HI.out _ (fun _ => rfl)⟩, below_grow (below_box _ _) m⟩
        · rw [if_neg l1]
          have g1 : (lk == 1) = false := by simpa using l1
          by_cases l0 : lk = 0
          · subst l0
            rw [if_pos rfl]
            by_cases hc : tcap = 1
            · subst hc
              have hR0 : R = [] := List.eq_nil_of_length_eq_zero (by omega)
              subst hR0
              go_enter Try.func86, Try.ntmps86
              go_wp2_with fail
              refine wp_region_grow (by kernel_rfl) (by kernel_rfl) ?_
              repeat (go_big_quiet_step ((first | (go_at_call 81; exact calls_grow_same (HT.out _)))))
              refine wpQuiet_nil ?_
              rintro _ ⟨m, rfl⟩
              go_wp2_with fail
              go_ret2
              exact ⟨⟨_, _, _, tb, tf + 1, rfl, HI.out _ (fun h => absurd h (by decide))⟩, below_grow (below_box _ _) m⟩
            · obtain ⟨c2, hc2⟩ : ∃ c2, c2 = tcap - 1 := ⟨_, rfl⟩
              go_enter Try.func86, Try.ntmps86
              go_wp2_with fail
              refine wp_region_grow (by kernel_rfl) (by kernel_rfl) ?_
              repeat (go_big_quiet_step ((first | (go_at_call 81; exact calls_grow_same (HT.out _)))))
              refine wpQuiet_nil ?_
              rintro _ ⟨m, rfl⟩
              go_wp2_with fail
              go_ret2
              exact ⟨⟨_, _, _, tb, tf + 1, rfl, HI.out _ (fun _ => rfl)⟩, below_grow (below_box _ _) m⟩
          · rw [if_neg l0]
            have g0 : (lk == 0) = false := by simpa using l0
            by_cases hc : tcap = 1
            · subst hc
              have hR0 : R = [] := List.eq_nil_of_length_eq_zero (by omega)
              subst hR0
              go_enter Try.func86, Try.ntmps86
              go_wp2_with fail
              refine wp_region_grow (by kernel_rfl) (by kernel_rfl) ?_
              repeat (go_big_quiet_step ((first | (go_at_call 81; exact calls_grow_same (HT.out _)))))
              refine wpQuiet_nil ?_
              rintro _ ⟨m, rfl⟩
              go_wp2_with fail
              go_ret2
              exact ⟨⟨_, _, _, tb, tf + 1, rfl, HI.out _ (fun h => absurd h (by decide))⟩, below_grow (below_box _ _) m⟩
            · obtain ⟨c2, hc2⟩ : ∃ c2, c2 = tcap - 1 := ⟨_, rfl⟩
              go_enter Try.func86, Try.ntmps86
              go_wp2_with fail
              refine wp_region_grow (by kernel_rfl) (by kernel_rfl) ?_
              repeat (go_big_quiet_step ((first | (go_at_call 81; exact calls_grow_same (HT.out _)))))
              refine wpQuiet_nil ?_
              rintro _ ⟨m, rfl⟩
              go_wp2_with fail
              go_ret2
              exact ⟨⟨_, _, _, tb, tf + 1, rfl, HI.out _ (fun _ => rfl)⟩, below_grow (below_box _ _) m⟩
      · rw [h3]
        have HI := Lib.hid hI0
        clear hI hI0 h3 hw0
        simp only [List.length_nil] at *
        by_cases l1 : lk = 1
        · subst l1
          rw [if_pos rfl]
          go_enter Try.func86, Try.ntmps86
          go_wp2_with fail
          go_ret2
          exact ⟨⟨_, _, _, tb, tf, rfl, HI.out⟩, below_box _ _⟩
        · rw [if_neg l1]
          have g1 : (lk == 1) = false := by simpa using l1
          by_cases l0 : lk = 0
          · subst l0
            rw [if_pos rfl]
            go_enter Try.func86, Try.ntmps86
            go_wp2_with fail
            go_ret2
            exact ⟨⟨_, _, _, tb, tf, rfl, HI.out⟩, below_box _ _⟩
          · rw [if_neg l0]
            have g0 : (lk == 0) = false := by simpa using l0
            rw [show tr 1 = 1 from rfl]
            go_enter Try.func86, Try.ntmps86
            go_wp2_with fail
            go_ret2
            exact ⟨⟨_, _, _, tb, tf, rfl, HI.out⟩, below_box _ _⟩
    · rw [leavesC_more _ hk] at hTold
      rw [evalC_more _ _ hk]
      obtain ⟨hc, f', hmk⟩ := mayC_parts hk hm
      have gk : (c == 4) = false := by simpa using hk
      clear hm
      obtain ⟨i0, hi0, hz0, hz1, hz2⟩ := info_parts infoInt
      obtain ⟨l, hlist⟩ : ∃ l, l = kids.map (evalC g h) := ⟨_, rfl⟩
      rw [← hlist]
      have hll : l.length = kids.length := by rw [hlist]; simp
      have h64 : ∀ x ∈ l, x = 0 ∨ x = 1 ∨ x = 2 := fun x hx => by
        rw [hlist] at hx
        obtain ⟨y, hy, rfl⟩ := List.mem_map.1 hx
        obtain ⟨j, hj⟩ := List.getElem?_of_mem hy
        exact evalC_three _ h f' y (hmk j y hj)
      have HL0 := Lib.hid hlist
      have H64 := Lib.hid h64
      have HI := Lib.hid hI0
      have HBW := Lib.hid hw0
      have HTo := Lib.hid hTold
      clear hlist h64 h1 h2 hI hI0 hTold hw0
      obtain ⟨lk, lt, nm, op, ⟨k', n, d, u, oa', b', o', cap', kids'⟩, wd, vl, an⟩ := lf
      rw [cv_mk]
      go_enter Try.func86, Try.ntmps86
      go_wp2_with fail
      go_loopg [7, 38, 1] kids.length (fun kk s t s1 wr => ∃ (i : Nat) (v : Value) (toa2 : Option Addr) (tlen2 tcap2 tb2 tf2 : Nat) (tl : List Int), v = s ∧ t = .int .i64 i ∧ s1 = .slice toa2 tlen2 tcap2 ∧ Hid (Gl w wr 49 #[.int .i64 c, .slice oa kids.length cap, .int .i64 lk, .int .i64 lt, .string nm, .int .i64 op, .int .i64 k', .int .i64 n, .int .i64 d, .int .i64 u, .slice oa' kids'.length cap', .string wd, .string vl, .bool an] v i l) ∧ Hid ((∀ wx, Below w0.heap.size w0 wx → Ints wx toa2 tlen2 tcap2 tb2 tf2 tl) ∧ Told g ((kids.drop i).flatMap (leavesC h)) tl R) ∧ i ≤ kids.length ∧ kids.length - i ≤ kk)
      case atStart => exact ⟨0, .slice none 0 0, toa, tlen, tcap, tb, tf, _, rfl, rfl, rfl, Lib.hid ⟨below_box _ _, Blk.new _ _ _, World.ownsRow_nil _ _ _ _⟩, Lib.hid ⟨HI.out, HTo.out⟩, Nat.zero_le _, by omega⟩
      case round =>
        clear HTo HI
        obtain ⟨i, v, toa2, tlen2, tcap2, tb2, tf2, tl, rfl, rfl, rfl, hg, hT, hle, hk2⟩ := hrel
        by_cases hi : i < kids.length
        · have gi : decide ((i : Int) < kids.length) = true := by simpa using hi
          have hr : kids[i]? = some kids[i] := List.getElem?_eq_getElem hi
          have hx := h8 i _ hr
          have hmx := hmk i _ hr
          have hlt : l[i]? = some (evalC g h kids[i]) := by rw [HL0.out, List.getElem?_map, hr]; rfl
          obtain ⟨hII, hTT⟩ := hT.out
          rw [flat_drop _ hr] at hTT
          obtain ⟨R1, hT1, hT2⟩ := hTT.split
          obtain ⟨rfl, hbl⟩ := h7 (by omega)
          generalize kids[i] = x at *
          have hX := fun wx (hb : Below w.heap.size w wx) => HIH.out f' x tl R1 wx toa2 tlen2 tcap2 tb2 tf2 (HBW.out.trans (hb.mono HBW.out.size)) (hx.2.below _ hb) hmx hII hT1
          generalize evalC g h x = M at *
          obtain ⟨xc, xoa, xb, xo, xcap, xkids, ⟨xlk, xlt, xnm, xop, ⟨xk, xn, xd, xu, xoa', xb', xo', xcap', xkids'⟩, xwd, xvl, xan⟩⟩ := x
          simp only [cv_mk] at hX
          have HX := Lib.hid hX
          have HT2 := Lib.hid hT2
          clear hX hT1 hT2 hT hII
          have f0 : wr.cell? ⟨b, o + i * 14, none⟩ = some (.int .i64 xc) := (hg.out.below.cell hbl).trans (hx.1 0 _ rfl)
          have f1 : wr.cell? ⟨b, o + i * 14 + 1, none⟩ = some (.slice xoa xkids.length xcap) := (hg.out.below.cell hbl).trans (hx.1 1 _ rfl)
          have f2 : wr.cell? ⟨b, o + i * 14 + 2, none⟩ = some (.int .i64 xlk) := (hg.out.below.cell hbl).trans (hx.1 2 _ rfl)
          have f3 : wr.cell? ⟨b, o + i * 14 + 3, none⟩ = some (.int .i64 xlt) := (hg.out.below.cell hbl).trans (hx.1 3 _ rfl)
          have f4 : wr.cell? ⟨b, o + i * 14 + 4, none⟩ = some (.string xnm) := (hg.out.below.cell hbl).trans (hx.1 4 _ rfl)
          have f5 : wr.cell? ⟨b, o + i * 14 + 5, none⟩ = some (.int .i64 xop) := (hg.out.below.cell hbl).trans (hx.1 5 _ rfl)
          have f6 : wr.cell? ⟨b, o + i * 14 + 6, none⟩ = some (.int .i64 xk) := (hg.out.below.cell hbl).trans (hx.1 6 _ rfl)
          have f7 : wr.cell? ⟨b, o + i * 14 + 7, none⟩ = some (.int .i64 xn) := (hg.out.below.cell hbl).trans (hx.1 7 _ rfl)
          have f8 : wr.cell? ⟨b, o + i * 14 + 8, none⟩ = some (.int .i64 xd) := (hg.out.below.cell hbl).trans (hx.1 8 _ rfl)
          have f9 : wr.cell? ⟨b, o + i * 14 + 9, none⟩ = some (.int .i64 xu) := (hg.out.below.cell hbl).trans (hx.1 9 _ rfl)
          have f10 : wr.cell? ⟨b, o + i * 14 + 10, none⟩ = some (.slice xoa' xkids'.length xcap') := (hg.out.below.cell hbl).trans (hx.1 10 _ rfl)
          have f11 : wr.cell? ⟨b, o + i * 14 + 11, none⟩ = some (.string xwd) := (hg.out.below.cell hbl).trans (hx.1 11 _ rfl)
          have f12 : wr.cell? ⟨b, o + i * 14 + 12, none⟩ = some (.string xvl) := (hg.out.below.cell hbl).trans (hx.1 12 _ rfl)
          have f13 : wr.cell? ⟨b, o + i * 14 + 13, none⟩ = some (.bool xan) := (hg.out.below.cell hbl).trans (hx.1 13 _ rfl)
          clear hx hr h8 h7 hmx hmk hc
          generalize xkids.length = xL at *
          generalize xkids'.length = xL' at *
          have hbv := hg.out.below.alloc hg.out.below.size (.cells #[.int .i64 xc, .slice xoa xL xcap, .int .i64 xlk, .int .i64 xlt, .string xnm, .int .i64 xop, .int .i64 xk, .int .i64 xn, .int .i64 xd, .int .i64 xu, .slice xoa' xL' xcap', .string xwd, .string xvl, .bool xan] 49)
          have hxv := hg.out.box.old (.cells #[.int .i64 xc, .slice xoa xL xcap, .int .i64 xlk, .int .i64 xlt, .string xnm, .int .i64 xop, .int .i64 xk, .int .i64 xn, .int .i64 xd, .int .i64 xu, .slice xoa' xL' xcap', .string xwd, .string xvl, .bool xan] 49)
          have hov := hg.out.own.alloc (.cells #[.int .i64 xc, .slice xoa xL xcap, .int .i64 xlk, .int .i64 xlt, .string xnm, .int .i64 xop, .int .i64 xk, .int .i64 xn, .int .i64 xd, .int .i64 xu, .slice xoa' xL' xcap', .string xwd, .string xvl, .bool xan] 49)
          have hin : i + 1 ≤ maxLen := by omega
          have hib : (i + 1) * 8 ≤ 140737488355328 := by omega
          have hvb := hg.out.own.lt
          have hne : v.ownBlock ≠ some w.heap.size := fun e => by have := (hvb _ e).1; omega
          have HVR := Lib.hid (show ∀ k, v.ownBlock = some k → w.heap.size ≤ k from fun k e => by have := (hvb _ e).1; omega)
          have hbs := hg.out.box.lt
          have HT := Lib.hid hlt
          clear hvb hlt hg
          go_wp2_with fail
          ((with_reducible refine (HX.out _ hbv).mono ?_); rintro e w' ⟨⟨oa3, len3, cap3, b3, o3, rfl, hI3⟩, hbw⟩)
          obtain ⟨m, rfl⟩ := grow_mk hbw
          replace hbv := below_grow hbv m
          replace hxv := hxv.grow m
          replace hov := owns_below hov (grow_below m)
          clear hbw
          generalize grow _ m = wq at *
          have hsq := hxv.lt
          have HI3 := Lib.hid hI3
          clear f0 f1 f2 f3 f4 f5 f6 f7 f8 f9 f10 f11 f12 f13 hI3
          go_wp2_with (at_builtin; refine wpList_append_lies _ rfl _ _ _ rfl (w.heap.size + 1) 3 i0 _ 1 8 Try.underlying36 hi0 hz0 hz1 hz2 rfl (by omega) v i ((l.take i).map (Value.int .i64)) rfl (hov.alloc _) ⟨wq.heap.size, 0, none⟩ 1 1 [.int .i64 M] rfl rfl (World.news_of_block (cs := #[.int .i64 M]) (t := 3) (fr := (0, 0)) (heap_alloc_new wq _)) (by simp [Value.oneCell']) (by omega) hin hib (by simp; omega) (wq.heap.size + 1) (by simp) ?_; intro gg capq w1 hown1 hgrow hat hlt; have HR1 := Lib.hid (And.intro (blk_grownBy (hxv.old _) hgrow (Ne.symm hne)) (And.intro (below_grownBy (hbv.alloc hbv.size _) hgrow (Nat.le_trans hbv.size (by simp)) HVR.out) hown1)); clear hown1 hgrow hat)
          go_roundg (kids.length - (i + 1))
          case measure => omega
          case rel =>
            obtain ⟨r1, r2, r3⟩ := HR1.out
            exact ⟨i + 1, _, oa3, len3, cap3, b3, o3, R1, rfl, by go_num, rfl, Lib.hid ⟨r2, r1, by rw [List.take_add_one, HT.out, List.map_append]; exact r3⟩, Lib.hid ⟨HI3.out, HT2.out⟩, hi, by omega⟩
        · obtain rfl : i = kids.length := by omega
          have hown := hg.out.own
          rw [List.take_of_length_le (by omega)] at hown
          obtain ⟨oa2, cap2, g2, rfl, hI⟩ := ints_of_own hown (fun x hx => by have := H64.out x hx; unfold I64; omega)
          have hbel := Lib.hid hg.out.below
          obtain ⟨hII, hTT⟩ := hT.out
          rw [List.drop_length] at hTT
          obtain rfl := Told.nil hTT
          have HII := Lib.hid hII
          have cb0 : wr.cell? ⟨w.heap.size, 0, none⟩ = some (.int .i64 c) := (hg.out.box).cell 0
          have fcb0 := (hg.out.box).frozen 0
          have cb1 : wr.cell? ⟨w.heap.size, 1, none⟩ = some (.slice oa kids.length cap) := (hg.out.box).cell 1
          have fcb1 := (hg.out.box).frozen 1
          have cb2 : wr.cell? ⟨w.heap.size, 2, none⟩ = some (.int .i64 lk) := (hg.out.box).cell 2
          have fcb2 := (hg.out.box).frozen 2
          have cb3 : wr.cell? ⟨w.heap.size, 3, none⟩ = some (.int .i64 lt) := (hg.out.box).cell 3
          have fcb3 := (hg.out.box).frozen 3
          have cb4 : wr.cell? ⟨w.heap.size, 4, none⟩ = some (.string nm) := (hg.out.box).cell 4
          have fcb4 := (hg.out.box).frozen 4
          have cb5 : wr.cell? ⟨w.heap.size, 5, none⟩ = some (.int .i64 op) := (hg.out.box).cell 5
          have fcb5 := (hg.out.box).frozen 5
          have cb6 : wr.cell? ⟨w.heap.size, 6, none⟩ = some (.int .i64 k') := (hg.out.box).cell 6
          have fcb6 := (hg.out.box).frozen 6
          have cb7 : wr.cell? ⟨w.heap.size, 7, none⟩ = some (.int .i64 n) := (hg.out.box).cell 7
          have fcb7 := (hg.out.box).frozen 7
          have cb8 : wr.cell? ⟨w.heap.size, 8, none⟩ = some (.int .i64 d) := (hg.out.box).cell 8
          have fcb8 := (hg.out.box).frozen 8
          have cb9 : wr.cell? ⟨w.heap.size, 9, none⟩ = some (.int .i64 u) := (hg.out.box).cell 9
          have fcb9 := (hg.out.box).frozen 9
          have cb10 : wr.cell? ⟨w.heap.size, 10, none⟩ = some (.slice oa' kids'.length cap') := (hg.out.box).cell 10
          have fcb10 := (hg.out.box).frozen 10
          have cb11 : wr.cell? ⟨w.heap.size, 11, none⟩ = some (.string wd) := (hg.out.box).cell 11
          have fcb11 := (hg.out.box).frozen 11
          have cb12 : wr.cell? ⟨w.heap.size, 12, none⟩ = some (.string vl) := (hg.out.box).cell 12
          have fcb12 := (hg.out.box).frozen 12
          have cb13 : wr.cell? ⟨w.heap.size, 13, none⟩ = some (.bool an) := (hg.out.box).cell 13
          have fcb13 := (hg.out.box).frozen 13
          have lcb := (hg.out.box).lt
          clear hown hg HIH h8 h7 hmk HL0 H64 hT hTT hII HBW
          rcases hc with rfl | rfl | ⟨rfl, hone⟩
          · obtain ⟨A, hA⟩ : ∃ A, andG 2 l = A := ⟨_, rfl⟩
            have HQ := Lib.hid hA
            have hC := rand_any oa2 kids.length cap2 g2 0 l wr hI
            rw [hA] at hC
            have HA := Lib.hid hC
            clear hA hC hI
            go_wp2_with fail
            ((with_reducible refine HA.out.mono ?_); rintro e w' ⟨rfl, rfl⟩)
            go_wp2_with fail
            go_ret2
            exact ⟨⟨_, _, _, ret_is HQ.out.symm, tb2, tf2, HII.out⟩, hbel.out⟩
          · obtain ⟨A, hA⟩ : ∃ A, orG 0 l = A := ⟨_, rfl⟩
            have HQ := Lib.hid hA
            have hC := ror_any oa2 kids.length cap2 g2 0 l wr hI
            rw [hA] at hC
            have HA := Lib.hid hC
            clear hA hC hI
            go_wp2_with fail
            ((with_reducible refine HA.out.mono ?_); rintro e w' ⟨rfl, rfl⟩)
            go_wp2_with fail
            go_ret2
            exact ⟨⟨_, _, _, ret_is HQ.out.symm, tb2, tf2, HII.out⟩, hbel.out⟩
          · obtain ⟨z, hz⟩ : ∃ z, l[0]? = some z := ⟨l[0]'(by omega), List.getElem?_eq_getElem (by omega)⟩
            have hd : l.headD 1 = z := by cases l <;> simp_all
            have e0 := hI.c0 0 z hz
            have h64 := hI.is64 0 z hz
            have ha := hI.at_ (by omega)
            have hlt2 := hI.lt (by omega)
            have hC := rnot_any z wr h64.1 h64.2
            obtain ⟨RR, hR⟩ : ∃ R, 2 - tr z = R := ⟨_, rfl⟩
            have HQ := Lib.hid (show 2 - tr (l.headD 1) = RR by rw [hd, hR])
            rw [hR] at hC
            have HN := Lib.hid hC
            simp only [Nat.zero_add] at e0
            clear hI hd hz h64 hC hR
            generalize kids.length = KL at *
            subst ha hone
            go_wp2_with fail
            ((with_reducible refine HN.out.mono ?_); rintro e w' ⟨rfl, rfl⟩)
            go_wp2_with fail
            go_ret2
            exact ⟨⟨_, _, _, ret_is (by simpa using HQ.out.symm), tb2, tf2, HII.out⟩, hbel.out⟩

end Go.Proofs.Ytgjhaanpkfheeaa
