/- Of my texts: WalkSpaces. -/
import Derived.Test.YtgjhaanpkfheeaaM10
import Derived.Test.YtgjhaanpkfheeaaM21
import Derived.Test.YtgjhaanpkfheeaaM22
namespace Go.Proofs.Ytgjhaanpkfheeaa
set_option linter.unusedVariables false
set_option linter.unusedSimpArgs false
open Go.RowKit

/-- some elements, built in a block of their own, behind a row -/
theorem wpList_addN {ops : Array Oper} {rest : List Oper} {o : Oper} {a : Act} {Q : Exit → Act → World → Prop} {base : Nat} {w : World} {t e : TypeId} {z : Value} {size bytes : Nat} (m : Nat) (hm : 0 < m) (E : El t e z size bytes)
    (hgd : o.guard = none) (s x : Operand) (ho : o.op = .call { callee := .builtin .append, args := #[s, x], argTypes := #[t, t] }) {v : Value} {n : Nat} {xs : List Value} (hs : a.eval s = v)
    (hown : w.ownsRow base e size v n xs) (hbase : base ≤ w.heap.size) {B : Nat} {cs : Array Value} {tc : TypeId} (hB : Blk w B tc cs) (c : Nat) (hx : a.eval x = .slice (some ⟨B, 0, none⟩) m c) (hl : cs.toList.length = m * size) (h1 : ∀ u ∈ cs.toList, u.oneCell' = true)
    (hbytes : (n + m) * bytes ≤ 140737488355328) (h63 : n + m ≤ 140737488355328)
    (h : ∀ g cap w', w'.ownsRow base e size (.slice (some ⟨g, 0, none⟩) (n + m) cap) (n + m) (xs ++ cs.toList) → w.grownBy w' v.ownBlock → (v.ownBlock = some g ∨ g = w.heap.size) → (∀ k, v.ownBlock = some k → base ≤ k ∧ k < w.heap.size) → wpList Try.prog ops Q rest (a.put o.dst (.slice (some ⟨g, 0, none⟩) (n + m) cap)) w') :
    wpList Try.prog ops Q (o :: rest) a w := by
  obtain ⟨i0, hi0, hz0, hz1, hz2⟩ := info_parts E.info
  refine wpList_append_lies _ hgd s x t ho base e i0 z size bytes E.under hi0 hz0 hz1 hz2 E.zs E.pos v n xs hs hown ⟨B, 0, none⟩ m c cs.toList hx hl
    (World.news_of_block (cs := cs) (t := tc) (fr := (0, 0)) hB) h1 hm (Nat.le_trans h63 (by decide)) hbytes hbase _ rfl fun g cap w' ho2 hg hat _ => ?_
  exact h g cap w' ho2 hg hat (fun k hk => hown.lt k hk)

theorem wide_append : ∀ a b : List Vt, wideV (a ++ b) = wideV a ++ wideV b
  | [], _ => rfl
  | v :: r, b => by
    have ih := wide_append r b
    rw [List.cons_append, wideV, wideV, ih]
    split
    · rfl
    · rfl
def blankVl : Vl := .mk ⟨13, [], (0, 0), false, false⟩ none 0 0 0 []
theorem blank_in (w : World) (h : Nat) : VlIn w (h + 1) blankVl :=
  ⟨⟨by unfold I64; decide, by unfold Is64; decide, by decide⟩, by simp, ⟨rfl, Nat.le_refl _, Nat.zero_le _, fun h => absurd h (by simp), fun j v h => by simp at h⟩, fun i x h => by simp at h⟩
theorem isQd_pair {A A' : Nat → Prop} {Q : Qt} {v v' : Value} {w : World} (h : isQd A Q v w) (h' : isQd A' Q v' w) :
    Calls Try.prog 59 #[v, v'] w fun e w' => e = .returned (.bool true) ∧ Below w.heap.size w w' := by
  obtain ⟨x, hx, rfl, hq, hb, hs⟩ := h
  obtain ⟨y, hy, rfl, hq', hb', hs'⟩ := h'
  exact qsame_any (max hx hy) x y w (cdin_up _ _ (Nat.le_max_left _ _) hs.here) (cdin_up _ _ (Nat.le_max_right _ _) hs'.here) (hq.trans hq'.symm) hb hb'

set_option maxRecDepth 20000 in
set_option maxHeartbeats 16000000 in
theorem law_condSpaces (h : Nat) (l : List Vl) (oa : Option Addr) (cap bb o : Nat) (w : World) (hs : VsIn w h oa cap bb o l) (hz : szV (l.map Vl.c) ≤ 1048576) :
    Calls Try.prog 19 #[.slice oa l.length cap] w fun e w' => e = .returned (.bool true) ∧ Below w.heap.size w w' := by
  obtain ⟨N, hN⟩ : ∃ N, l.length = N := ⟨_, rfl⟩
  obtain ⟨L, hL⟩ : ∃ L, l.map Vl.c = L := ⟨_, rfl⟩
  have hN30 : N ≤ 1048576 := by
    have := sz_len (l.map Vl.c)
    rw [List.length_map] at this
    omega
  have hcl := hs.sl.le
  have hcm := hs.sl.max
  unfold maxLen at hcm
  rw [hN] at hcl
  have hs1 := hs.mono (Nat.le_succ h)
  have HPL := Lib.hid (show ∀ wx, Below w.heap.size w wx → Calls Try.prog 55 #[.slice oa N cap, .func (.func 56) #[] #[]] wx fun e w' => ∃ (r : Value) (code : Int), e = .returned (.tuple #[r, .int .i64 code]) ∧ code = codeQ true (h + 1) L ∧ isQd (· < wx.heap.size) (condQ true (h + 1) L) r w' ∧ Below wx.heap.size wx w' from fun wx hx => by
    have := kparse_any true (h + 1) l oa cap bb o wx (hs1.below hx) (by omega)
    rw [hN, hL] at this
    exact this)
  have hm := mayv5_any h l oa cap bb o w hs
  rw [hN, hL] at hm
  rw [hN]
  have HM := Lib.hid hm
  have HS := Lib.hid (And.intro hs1 (And.intro hz (And.intro hN hL)))
  obtain ⟨M, hM⟩ : ∃ M, mayV 64 L = M := ⟨_, rfl⟩
  rw [hM] at HM
  have hb0 : Below w.heap.size w w := Below.refl _ _
  clear hm hs hs1 hz hN hL
  go_enter Try.func19, Try.ntmps19
  go_wp2_with fail
  ((with_reducible refine (HM.out).mono ?_); rintro e w' ⟨rfl, hbw⟩)
  obtain ⟨m, rfl⟩ := grow_mk hbw
  clear hbw
  cases M with
  | false =>
    have HP := Lib.hid (HPL.out _ (grow_below m))
    have hcd : codeQ true (h + 1) L = 1 := by
      unfold codeQ
      rw [hM]
      rfl
    rw [hcd] at HP
    go_wp2_with fail
    ((with_reducible refine HP.out.mono ?_); rintro e w2 ⟨r, code, rfl, rfl, hq, hb2⟩)
    obtain ⟨qk, qa, qn, qc, ⟨q1, q2, q3⟩, hr⟩ := hq.cells
    simp only [qcells] at hr
    subst hr
    have HB := Lib.hid ((grow_below m).trans (hb2.mono (grow_size m)))
    clear hq hb2 HP
    have HA := Lib.hid (fun wx => awakeC_any wx)
    go_wp2_with fail
    ((with_reducible refine (HA.out _).mono ?_); rintro e w3 ⟨rfl, hb3⟩)
    have HB3 := Lib.hid (hb3)
    clear hb3
    go_wp2_with fail
    go_ret
    have hB4 := HB.out.trans ((below_box w2 (.cells #[.int .i64 qk, .slice qa qn qc, .int .i64 q1, .int .i64 q2, .string ⟨q3.toArray⟩, .int .i64 0, .int .i64 0, .int .i64 0, .int .i64 0, .int .i64 0, .slice none 0 0, .string ⟨#[]⟩, .string ⟨#[]⟩, .bool false] 49)).mono HB.out.size)
    exact ⟨ret_bool rfl, hB4.trans (HB3.out.mono hB4.size)⟩
  | true =>
    have HB := Lib.hid (grow_below m)
    clear HM
    generalize grow w m = wa at *
    go_wp2_with fail
    go_loopg [5, 27] N (fun q s5 s27 wr => ∃ (i : Nat) (D : List Vl) (v : Value), s27 = .int .i64 i ∧ s5 = v ∧ Hid (Below w.heap.size w wr) ∧ Hid (wr.ownsRow w.heap.size 74 7 v D.length (D.flatMap vcells)) ∧ Hid (D.map Vl.c = wideV (L.take i)) ∧ Hid (∀ x ∈ D, x ∈ l ∨ x = blankVl) ∧ D.length ≤ 3 * i ∧ i ≤ N ∧ N - i ≤ q)
    case atStart => exact ⟨0, [], _, rfl, rfl, HB, Lib.hid (World.ownsRow_nil _ _ _ _), Lib.hid rfl, Lib.hid (fun x hx => by cases hx), Nat.le_refl _, Nat.zero_le _, Nat.le_refl _⟩
    case round =>
      clear HB
      obtain ⟨i, D, v, rfl, rfl, hB, hO, hD, hE, hDi, hiN, hq⟩ := hrel
      by_cases hi : i < N
      · have gi : decide ((i : Int) < (N : Int)) = true := by simpa using hi
        have gin : decide (i < N) = true := by simpa using hi
        have ij0 : (0 : Int) ≤ (i : Int) := Int.natCast_nonneg _
        have ijN : (i : Int) < (N : Int) := by omega
        have hil : i < l.length := by rw [HS.out.2.2.1]; exact hi
        have hli : l[i]? = some l[i] := List.getElem?_eq_getElem hil
        obtain ⟨x, hx⟩ : ∃ x, l[i] = x := ⟨_, rfl⟩
        rw [hx] at hli
        have hLi : L.take (i + 1) = L.take i ++ [x.c] := by
          rw [← HS.out.2.2.2, List.take_add_one, List.getElem?_map, hli]
          rfl
        have hxl := List.mem_of_getElem? hli
        have hvs := HS.out.1.below hB.out
        obtain ⟨rfl, hbl⟩ := hvs.sl.lies (by omega)
        obtain ⟨t, koa, kb, ko, kcap, kids⟩ := x
        obtain ⟨K, hK⟩ : ∃ K, kids.length = K := ⟨_, rfl⟩
        have f0 := hvs.cell hli (j := 0) rfl
        have f1 := hvs.cell hli (j := 1) rfl
        have f2 := hvs.cell hli (j := 2) rfl
        have f3 := hvs.cell hli (j := 3) rfl
        have f4 := hvs.cell hli (j := 4) rfl
        have f5 := hvs.cell hli (j := 5) rfl
        have f6 := hvs.cell hli (j := 6) rfl
        rw [Nat.add_zero] at f0
        rw [hK] at f6
        obtain ⟨tk, tt, ⟨tn, td⟩, ti, tid⟩ := t
        have hvc : vcells (.mk ⟨tk, tt, (tn, td), ti, tid⟩ koa kb ko kcap kids) = [.int .i64 tk, .string ⟨tt.toArray⟩, .int .i64 tn, .int .i64 td, .bool ti, .bool tid, .slice koa K kcap] := by rw [← hK]; rfl
        have HXL := Lib.hid (And.intro hxl (And.intro hvc hLi))
        clear hvs hli hil hx hxl hvc hLi hK
        go_upto_region 8 with fail
        have hbx := below_box wr (.cells #[.int .i64 tk, .string ⟨tt.toArray⟩, .int .i64 tn, .int .i64 td, .bool ti, .bool tid, .slice koa K kcap] 74)
        have h8 := Blk.new wr 74 #[.int .i64 tk, .string ⟨tt.toArray⟩, .int .i64 tn, .int .i64 td, .bool ti, .bool tid, .slice koa K kcap]
        have HB2 := Lib.hid (hB.out.trans (hbx.mono hB.out.size))
        have HO2 := Lib.hid (hO.out.alloc (.cells #[.int .i64 tk, .string ⟨tt.toArray⟩, .int .i64 tn, .int .i64 td, .bool ti, .bool tid, .slice koa K kcap] 74))
        clear hB hO hbx f0 f1 f2 f3 f4 f5 f6
        generalize wr.heap.size = g8 at *
        generalize World.alloc wr _ = wv at *
        have cv0 : wv.cell? ⟨g8, 0, none⟩ = some (.int .i64 tk) := (h8).cell 0
        have fcv0 := (h8).frozen 0
        have cv1 : wv.cell? ⟨g8, 1, none⟩ = some (.string ⟨tt.toArray⟩) := (h8).cell 1
        have fcv1 := (h8).frozen 1
        have cv2 : wv.cell? ⟨g8, 2, none⟩ = some (.int .i64 tn) := (h8).cell 2
        have fcv2 := (h8).frozen 2
        have cv3 : wv.cell? ⟨g8, 3, none⟩ = some (.int .i64 td) := (h8).cell 3
        have fcv3 := (h8).frozen 3
        have cv4 : wv.cell? ⟨g8, 4, none⟩ = some (.bool ti) := (h8).cell 4
        have fcv4 := (h8).frozen 4
        have cv5 : wv.cell? ⟨g8, 5, none⟩ = some (.bool tid) := (h8).cell 5
        have fcv5 := (h8).frozen 5
        have cv6 : wv.cell? ⟨g8, 6, none⟩ = some (.slice koa K kcap) := (h8).cell 6
        have fcv6 := (h8).frozen 6
        have lcv := (h8).lt
        clear h8
        by_cases h13 : tk = 13
        · subst h13
          go_wp2_with fail
          go_roundg (N - (i + 1))
          case measure => omega
          case rel =>
            refine ⟨i + 1, D, _, by go_num, rfl, HB2, HO2, Lib.hid ?_, hE, by omega, hi, Nat.le_refl _⟩
            rw [HXL.out.2.2, wide_append, hD.out, Vl.c_mk]
            show _ = _ ++ []
            rw [List.append_nil]
        · have gk : (tk != 13) = true := by rw [bne_iff_ne]; exact h13
          have hbs := HB2.out.size
          go_wp2_with (at_builtin; refine wpList_addN 3 (by decide) elVal rfl _ _ rfl rfl (HO2.out.alloc _) (by simp; omega) (Blk.new wv _ _) 3 rfl rfl (by simp [Value.oneCell']) (by omega) (by omega) ?_; intro gg cap3 w3 ho3 hg3 hat hvb; have H3 := Lib.hid (And.intro ho3 (And.intro hg3 hvb)); clear ho3 hg3 hat hvb)
          go_roundg (N - (i + 1))
          case measure => omega
          case rel =>
            obtain ⟨ho3, hg3, hvb⟩ := H3.out
            refine ⟨i + 1, D ++ [blankVl, .mk ⟨tk, tt, (tn, td), ti, tid⟩ koa kb ko kcap kids, blankVl], _, by go_num, rfl, Lib.hid (below_far (HB2.out.alloc hbs _) hg3 fun k hk => (hvb k hk).1), Lib.hid ?_, Lib.hid ?_, Lib.hid ?_, by simp; omega, hi, Nat.le_refl _⟩
            · have e3 : [blankVl, Vl.mk ⟨tk, tt, (tn, td), ti, tid⟩ koa kb ko kcap kids, blankVl].flatMap vcells = [.int .i64 13, .string ⟨#[]⟩, .int .i64 0, .int .i64 0, .bool false, .bool false, .slice none 0 0, .int .i64 tk, .string ⟨tt.toArray⟩, .int .i64 tn, .int .i64 td, .bool ti, .bool tid, .slice koa K kcap, .int .i64 13, .string ⟨#[]⟩, .int .i64 0, .int .i64 0, .bool false, .bool false, .slice none 0 0] := by
                rw [List.flatMap_cons, List.flatMap_cons, List.flatMap_singleton, HXL.out.2.1]
                rfl
              rw [List.length_append, List.flatMap_append, e3]
              exact ho3
            · rw [HXL.out.2.2, wide_append, List.map_append, hD.out, List.map_cons, List.map_cons, List.map_cons, List.map_nil]
              congr 1
              rw [wideV, if_neg]
              · rfl
              · rw [Vl.c_mk]
                simpa [spV] using h13
            · intro y hy
              rcases List.mem_append.1 hy with hy | hy
              · exact hE.out y hy
              · rcases List.mem_cons.1 hy with rfl | hy
                · exact Or.inr rfl
                · rcases List.mem_cons.1 hy with rfl | hy
                  · exact Or.inl HXL.out.1
                  · obtain rfl := List.mem_singleton.1 hy
                    exact Or.inr rfl
      · obtain rfl : i = N := by omega
        have gi : decide ((i : Int) < (i : Int)) = false := by simp
        have gin : decide (i < i) = false := by simp
        obtain ⟨voa, vcap, vg, rfl, hsl, hpos⟩ := sl_of_own hO.out
        have hDL : D.map Vl.c = wideV L := by
          rw [hD.out, List.take_of_length_le]
          rw [← HS.out.2.2.2, List.length_map, HS.out.2.2.1]
          exact Nat.le_refl _
        have hvs := HS.out.1.below hB.out
        have hDv : VsIn wr (h + 1) voa vcap vg 0 D := ⟨by omega, hsl, fun j y hy => by
          rcases hE.out y (List.mem_of_getElem? hy) with hy | rfl
          · obtain ⟨j2, hj2, e⟩ := List.getElem_of_mem hy
            exact hvs.each j2 y (by rw [List.getElem?_eq_getElem hj2, e])
          · exact blank_in _ _⟩
        have hmw := may_wide 64 L hM
        have hcw : codeQ true (h + 1) (wideV L) = codeQ true (h + 1) L ∧ condQ true (h + 1) (wideV L) = condQ true (h + 1) L := by
          unfold codeQ condQ
          rw [hM, hmw, whole_wide]
          exact ⟨rfl, rfl⟩
        have HPD := Lib.hid (show ∀ wx, Below wr.heap.size wr wx → Calls Try.prog 55 #[.slice voa D.length vcap, .func (.func 56) #[] #[]] wx fun e w' => ∃ (r : Value) (code : Int), e = .returned (.tuple #[r, .int .i64 code]) ∧ code = codeQ true (h + 1) L ∧ isQd (· < wx.heap.size) (condQ true (h + 1) L) r w' ∧ Below wx.heap.size wx w' from fun wx hx => by
          have := kparse_any true (h + 1) D voa vcap vg 0 wx (hDv.below hx) (by rw [hDL]; have := sz_wide L; have := HS.out.2.1; rw [HS.out.2.2.2] at this; omega)
          rw [hDL, hcw.1, hcw.2] at this
          exact this)
        have HP1 := Lib.hid (HPL.out wr hB.out)
        obtain ⟨C, hC⟩ : ∃ C, codeQ true (h + 1) L = C := ⟨_, rfl⟩
        obtain ⟨Q, hQ⟩ : ∃ Q, condQ true (h + 1) L = Q := ⟨_, rfl⟩
        rw [hC, hQ] at HP1 HPD
        clear hsl hpos hvs hDv hmw hcw hDL hO hD hE HPL hC hQ
        generalize D.length = DL at *
        go_wp2_with fail
        ((with_reducible refine HP1.out.mono ?_); rintro e wx ⟨r, code, rfl, hcode, hq, hb2⟩)
        subst hcode
        obtain ⟨qk, qa, qn, qc, ⟨q1, q2, q3⟩, hr⟩ := hq.cells
        simp only [qcells] at hr
        subst hr
        have HQ := Lib.hid hq
        have HB2 := Lib.hid hb2
        clear hq hb2 HP1
        go_upto_region 12 with fail
        have hbx := below_box wx (.cells #[.int .i64 qk, .slice qa qn qc, .int .i64 q1, .int .i64 q2, .string ⟨q3.toArray⟩, .int .i64 0, .int .i64 0, .int .i64 0, .int .i64 0, .int .i64 0, .slice none 0 0, .string ⟨#[]⟩, .string ⟨#[]⟩, .bool false] 49)
        have H8 := Lib.hid (Blk.new wx 49 #[.int .i64 qk, .slice qa qn qc, .int .i64 q1, .int .i64 q2, .string ⟨q3.toArray⟩, .int .i64 0, .int .i64 0, .int .i64 0, .int .i64 0, .int .i64 0, .slice none 0 0, .string ⟨#[]⟩, .string ⟨#[]⟩, .bool false])
        have HQ2 := Lib.hid (HQ.out.below hbx)
        have HB3 := Lib.hid (HB2.out.trans (hbx.mono HB2.out.size))
        clear hbx HQ HB2
        generalize wx.heap.size = g8 at *
        generalize World.alloc wx _ = wy at *
        have HP2 := Lib.hid (HPD.out wy HB3.out)
        go_wp2_with fail
        ((with_reducible refine HP2.out.mono ?_); rintro e wz ⟨r2, code2, rfl, hcode, hq2, hb2⟩)
        subst hcode
        obtain ⟨pk, pa, pn, pc, ⟨p1, p2, p3⟩, hr⟩ := hq2.cells
        simp only [qcells] at hr
        subst hr
        have HR2 := Lib.hid hq2
        have HQ3 := Lib.hid (HQ2.out.below hb2)
        have H83 := Lib.hid (H8.out.below hb2 H8.out.lt)
        have HB4 := Lib.hid (HB3.out.trans (hb2.mono HB3.out.size))
        clear hq2 hb2 HP2 HPD HQ2 H8 HB3
        go_upto_region 13 with fail
        have hbx := below_box wz (.cells #[.int .i64 pk, .slice pa pn pc, .int .i64 p1, .int .i64 p2, .string ⟨p3.toArray⟩, .int .i64 0, .int .i64 0, .int .i64 0, .int .i64 0, .int .i64 0, .slice none 0 0, .string ⟨#[]⟩, .string ⟨#[]⟩, .bool false] 49)
        have h10 := Blk.new wz 49 #[.int .i64 pk, .slice pa pn pc, .int .i64 p1, .int .i64 p2, .string ⟨p3.toArray⟩, .int .i64 0, .int .i64 0, .int .i64 0, .int .i64 0, .int .i64 0, .slice none 0 0, .string ⟨#[]⟩, .string ⟨#[]⟩, .bool false]
        have h8 := H83.out.below hbx H83.out.lt
        have HSM := Lib.hid (isQd_pair (HQ3.out.below hbx) (HR2.out.below hbx))
        have HB5 := Lib.hid (HB4.out.trans (hbx.mono HB4.out.size))
        clear hbx HR2 HQ3 H83 HB4
        generalize wz.heap.size = g10 at *
        generalize World.alloc wz _ = wv at *
        have cx0 : wv.cell? ⟨g8, 0, none⟩ = some (.int .i64 qk) := (h8).cell 0
        have fcx0 := (h8).frozen 0
        have cx1 : wv.cell? ⟨g8, 1, none⟩ = some (.slice qa qn qc) := (h8).cell 1
        have fcx1 := (h8).frozen 1
        have cx2 : wv.cell? ⟨g8, 2, none⟩ = some (.int .i64 q1) := (h8).cell 2
        have fcx2 := (h8).frozen 2
        have cx3 : wv.cell? ⟨g8, 3, none⟩ = some (.int .i64 q2) := (h8).cell 3
        have fcx3 := (h8).frozen 3
        have cx4 : wv.cell? ⟨g8, 4, none⟩ = some (.string ⟨q3.toArray⟩) := (h8).cell 4
        have fcx4 := (h8).frozen 4
        have cx5 : wv.cell? ⟨g8, 5, none⟩ = some (.int .i64 0) := (h8).cell 5
        have fcx5 := (h8).frozen 5
        have cx6 : wv.cell? ⟨g8, 6, none⟩ = some (.int .i64 0) := (h8).cell 6
        have fcx6 := (h8).frozen 6
        have cx7 : wv.cell? ⟨g8, 7, none⟩ = some (.int .i64 0) := (h8).cell 7
        have fcx7 := (h8).frozen 7
        have cx8 : wv.cell? ⟨g8, 8, none⟩ = some (.int .i64 0) := (h8).cell 8
        have fcx8 := (h8).frozen 8
        have cx9 : wv.cell? ⟨g8, 9, none⟩ = some (.int .i64 0) := (h8).cell 9
        have fcx9 := (h8).frozen 9
        have cx10 : wv.cell? ⟨g8, 10, none⟩ = some (.slice none 0 0) := (h8).cell 10
        have fcx10 := (h8).frozen 10
        have cx11 : wv.cell? ⟨g8, 11, none⟩ = some (.string ⟨#[]⟩) := (h8).cell 11
        have fcx11 := (h8).frozen 11
        have cx12 : wv.cell? ⟨g8, 12, none⟩ = some (.string ⟨#[]⟩) := (h8).cell 12
        have fcx12 := (h8).frozen 12
        have cx13 : wv.cell? ⟨g8, 13, none⟩ = some (.bool false) := (h8).cell 13
        have fcx13 := (h8).frozen 13
        have lcx := (h8).lt
        have cy0 : wv.cell? ⟨g10, 0, none⟩ = some (.int .i64 pk) := (h10).cell 0
        have fcy0 := (h10).frozen 0
        have cy1 : wv.cell? ⟨g10, 1, none⟩ = some (.slice pa pn pc) := (h10).cell 1
        have fcy1 := (h10).frozen 1
        have cy2 : wv.cell? ⟨g10, 2, none⟩ = some (.int .i64 p1) := (h10).cell 2
        have fcy2 := (h10).frozen 2
        have cy3 : wv.cell? ⟨g10, 3, none⟩ = some (.int .i64 p2) := (h10).cell 3
        have fcy3 := (h10).frozen 3
        have cy4 : wv.cell? ⟨g10, 4, none⟩ = some (.string ⟨p3.toArray⟩) := (h10).cell 4
        have fcy4 := (h10).frozen 4
        have cy5 : wv.cell? ⟨g10, 5, none⟩ = some (.int .i64 0) := (h10).cell 5
        have fcy5 := (h10).frozen 5
        have cy6 : wv.cell? ⟨g10, 6, none⟩ = some (.int .i64 0) := (h10).cell 6
        have fcy6 := (h10).frozen 6
        have cy7 : wv.cell? ⟨g10, 7, none⟩ = some (.int .i64 0) := (h10).cell 7
        have fcy7 := (h10).frozen 7
        have cy8 : wv.cell? ⟨g10, 8, none⟩ = some (.int .i64 0) := (h10).cell 8
        have fcy8 := (h10).frozen 8
        have cy9 : wv.cell? ⟨g10, 9, none⟩ = some (.int .i64 0) := (h10).cell 9
        have fcy9 := (h10).frozen 9
        have cy10 : wv.cell? ⟨g10, 10, none⟩ = some (.slice none 0 0) := (h10).cell 10
        have fcy10 := (h10).frozen 10
        have cy11 : wv.cell? ⟨g10, 11, none⟩ = some (.string ⟨#[]⟩) := (h10).cell 11
        have fcy11 := (h10).frozen 11
        have cy12 : wv.cell? ⟨g10, 12, none⟩ = some (.string ⟨#[]⟩) := (h10).cell 12
        have fcy12 := (h10).frozen 12
        have cy13 : wv.cell? ⟨g10, 13, none⟩ = some (.bool false) := (h10).cell 13
        have fcy13 := (h10).frozen 13
        have lcy := (h10).lt
        clear h8 h10
        have HA := Lib.hid (fun wx => awakeC_any wx)
        go_wp2_with fail
        ((with_reducible refine (HSM.out).mono ?_); rintro e w' ⟨rfl, hbw⟩)
        obtain ⟨m5, rfl⟩ := grow_mk hbw
        clear hbw
        have HB6 := Lib.hid (HB5.out.trans ((grow_below m5).mono HB5.out.size))
        generalize grow wv m5 = wt at *
        go_wp2_with fail
        ((with_reducible refine (HA.out _).mono ?_); rintro e w3 ⟨rfl, hb3⟩)
        have HB7 := Lib.hid (HB6.out.trans (hb3.mono HB6.out.size))
        clear hb3
        go_wp2_with fail
        go_ret
        exact ⟨ret_bool rfl, hB.out.trans (HB7.out.mono hB.out.size)⟩

end Go.Proofs.Ytgjhaanpkfheeaa
