/- Of my texts: ParseR. -/
import Derived.Test.YtgjhaanpkfheeaaM32
import Derived.Test.YtgjhaanpkfheeaaM33
namespace Go.Proofs.Ytgjhaanpkfheeaa
set_option linter.unusedVariables false
set_option linter.unusedSimpArgs false
open Go.RowKit

theorem evens_snoc {α : Type} : ∀ (a : List α) (x : α), evensL (a ++ [x]) = if a.length % 2 = 0 then evensL a ++ [x] else evensL a
  | [], x => rfl
  | [y], x => by simp [evensL]
  | y :: z :: r, x => by
    have ih := evens_snoc r x
    have e : (y :: z :: r).length % 2 = r.length % 2 := by simp only [List.length_cons]; omega
    rw [e, List.cons_append, List.cons_append, evensL, evensL, ih]
    split <;> rfl
theorem odds_snoc {α : Type} : ∀ (a : List α) (x : α), oddsL (a ++ [x]) = if a.length % 2 = 1 then oddsL a ++ [x] else oddsL a
  | [], x => rfl
  | [y], x => by simp [oddsL]
  | y :: z :: r, x => by
    have ih := odds_snoc r x
    have e : (y :: z :: r).length % 2 = r.length % 2 := by simp only [List.length_cons]; omega
    rw [e, List.cons_append, List.cons_append, oddsL, oddsL, ih]
    split <;> rfl
theorem take_snoc {α : Type} {L : List α} {i : Nat} (h : i < L.length) : L.take (i + 1) = L.take i ++ [L[i]] := List.take_succ_eq_append_getElem h
theorem evens_step {α : Type} {L : List α} {i : Nat} (h : i < L.length) (h2 : i % 2 = 0) : evensL (L.take (i + 2)) = evensL (L.take i) ++ [L[i]] := by
  have e1 : evensL (L.take (i + 1)) = evensL (L.take i) ++ [L[i]] := by
    rw [take_snoc h, evens_snoc, if_pos (by rw [List.length_take]; omega)]
  by_cases h3 : i + 1 < L.length
  · rw [show i + 2 = i + 1 + 1 by omega, take_snoc h3, evens_snoc, if_neg (by rw [List.length_take]; omega), e1]
  · rw [List.take_of_length_le (by omega : L.length ≤ i + 2), ← e1, List.take_of_length_le (by omega)]
theorem parse_even {f : Vt → Qt} {L : List Vt} (h : L.length % 2 = 0) (h2 : L.length ≠ 2) : parseQ f L = none := by
  match L with
  | [] => rfl
  | [a] => simp at h
  | [a, b] => exact absurd rfl h2
  | a :: b :: c :: r => rw [parseQ_many, if_pos h]
theorem parse_odd {f : Vt → Qt} {L : List Vt} (h : L.length % 2 = 1) : parseQ f L = if (evensL L).all opensV = false then none
    else if (oddsL L).countP (fun v => wordV v == andS) ≠ L.length / 2 ∧ (oddsL L).countP (fun v => wordV v == orS) ≠ L.length / 2 then none
    else if L.length / 2 = 0 then (L[0]?).map f
    else if (oddsL L).countP (fun v => wordV v == andS) = L.length / 2 then some (.mk 1 ((evensL L).map f) zeroQ) else some (.mk 2 ((evensL L).map f) zeroQ) := by
  match L with
  | [] => simp at h
  | [a] =>
    rw [parseQ_one]
    cases ho : opensV a <;> simp [evensL, oddsL, ho]
  | [a, b] => simp at h
  | a :: b :: c :: r =>
    rw [parseQ_many, if_neg (by omega)]
    have h0 : ¬ (a :: b :: c :: r).length / 2 = 0 := by simp only [List.length_cons]; omega
    split
    · rfl
    · split
      · rfl
      · first | rfl | rw [if_neg h0]

theorem evens_mem {α : Type} {L : List α} {i : Nat} {x : α} (h : L[i]? = some x) (h2 : i % 2 = 0) : x ∈ evensL L := by
  match L, i with
  | [], _ => cases h
  | [y], 0 =>
    obtain rfl : y = x := Option.some.inj h
    exact List.mem_singleton.2 rfl
  | [y], i + 1 => cases h
  | y :: z :: r, 0 =>
    obtain rfl : y = x := Option.some.inj h
    exact List.mem_cons_self ..
  | y :: z :: r, 1 => omega
  | y :: z :: r, i + 2 => exact List.mem_cons_of_mem _ (evens_mem (L := r) (i := i) h (by omega))

/-- a condition of one kid, that lies in a block of its own -/
def isQ1 (k0 : Nat) (Q : Qt) (v : Value) (w : World) : Prop := ∃ (b : Nat) (cs : Array Value), v = .agg (qcells 3 (.slice (some ⟨b, 0, none⟩) 1 1) zeroQ).toArray ∧ k0 ≤ b ∧ isQc (· < k0) Q cs w ∧ Blk w b 49 cs
theorem isQ1_stays (k0 : Nat) (Q : Qt) : ∀ v w1 w2, isQ1 k0 Q v w1 → Below w1.heap.size w1 w2 → isQ1 k0 Q v w2 := fun _ _ _ ⟨b, cs, h1, h2, h3, h4⟩ hb => ⟨b, cs, h1, h2, isQd.below h3 hb, h4.below hb h4.lt⟩
theorem isQ1_qd {k0 : Nat} {Q : Qt} {v : Value} {w : World} (h : isQ1 k0 Q v w) : isQd (· < k0) (.mk 3 [Q] zeroQ) v w := by
  obtain ⟨b, cs, rfl, hkb, hq, hbk⟩ := h
  obtain ⟨x, hh, hv, rfl, hb, hs⟩ := hq
  have hcs : cs = (ccells x).toArray := by
    unfold cv at hv
    injection hv
  subst hcs
  have ho := owns_fresh (n := 1) (size := 14) hbk hkb (by simp [ccells_length]) (by decide)
  refine row_qd (D := [x]) (by unfold I64; decide) (by simpa using ho) (by simp) (fun y hy => ?_) ⟨hh, hs.mono fun w' hw y hy => ?_⟩
  · obtain rfl := List.mem_singleton.1 hy
    exact hb
  · obtain rfl := List.mem_singleton.1 hy
    exact hw

/-- conditions that are gathered in a row of its own -/
structure Kn (B : Nat) (w0 w : World) (v : Value) (D : List Cd) : Prop where
  bl : Below B w0 w
  row : w.ownsRow B 49 14 v D.length (D.flatMap ccells)
  bare : ∀ x ∈ D, x.bare
  safe : ∃ hh, Safe (fun b => b < B ∨ v.ownBlock = some b) w fun w => ∀ x ∈ D, CdIn w hh x
theorem Kn.below {B : Nat} {w0 w w' : World} {v : Value} {D : List Cd} (h : Kn B w0 w v D) (hs : B ≤ w0.heap.size) (hb : Below w.heap.size w w') : Kn B w0 w' v D := by
  obtain ⟨hh, hS⟩ := h.safe
  exact ⟨h.bl.trans (hb.mono (by have := h.bl.size; omega)), owns_belowW h.row hb, h.bare, hh, hS.below hb⟩
theorem Kn.add {B B3 : Nat} {w0 w w9 : World} {gg cap3 h2 : Nat} {v : Value} {D : List Cd} {x2 : Cd} {cs : List Value} (hJ : Kn B w0 w v D) (hs : B ≤ w0.heap.size) (hBB : B ≤ B3) (hB3 : B3 ≤ w.heap.size) (hv3 : ∀ b, v.ownBlock = some b → b < B3)
    (hb2 : x2.bare) (hx : Safe (· < B3) w fun w => CdIn w h2 x2)
    (ho : w9.ownsRow B 49 14 (.slice (some ⟨gg, 0, none⟩) (D.length + 1) cap3) (D.length + 1) (D.flatMap ccells ++ cs)) (hcs : ccells x2 = cs)
    (hG : w.grownBy w9 v.ownBlock) (hat : v.ownBlock = some gg ∨ w.heap.size ≤ gg) :
    Kn B w0 w9 (.slice (some ⟨gg, 0, none⟩) (D.length + 1) cap3) (D ++ [x2]) := by
  have hww : B ≤ w.heap.size := by have := hJ.bl.size; omega
  have hrow := hJ.row.lt
  refine ⟨⟨hG.os.trans hJ.bl.os, hG.tape.trans hJ.bl.tape, hG.output.trans hJ.bl.output, Nat.le_trans hJ.bl.size hG.size, fun j hj => (hG.block j (by omega) (fun e => by have := (hrow j e.symm).1; omega)).trans (hJ.bl.block j hj)⟩, ?_, fun y hy => ?_, ?_⟩
  · rw [List.length_append, List.flatMap_append, List.flatMap_singleton, hcs]
    exact ho
  · rcases List.mem_append.1 hy with h | h
    · exact hJ.bare y h
    · obtain rfl := List.mem_singleton.1 h
      exact hb2
  · obtain ⟨hh, hS⟩ := hJ.safe
    refine ⟨max hh h2, ?_⟩
    have hA : ∀ b, (b < B ∨ (Value.slice (some ⟨gg, 0, none⟩) (D.length + 1) cap3).ownBlock = some b) → (b < B ∨ v.ownBlock = some b) ∨ w.heap.size ≤ b := by
      intro b hb
      rcases hb with hb | hb
      · exact Or.inl (Or.inl hb)
      · have e : gg = b := Option.some.inj hb
        subst e
        rcases hat with h | h
        · exact Or.inl (Or.inr h)
        · exact Or.inr (by omega)
    have s1 := ((hS.wide (A' := fun b => (b < B ∨ v.ownBlock = some b) ∨ w.heap.size ≤ b) fun b h => h).grown hG (fun k e _ => Or.inl (Or.inr e))).anti fun b hb _ => hA b hb
    have s2 := ((hx.wide (A' := fun b => b < B3 ∨ w.heap.size ≤ b) fun b h => h).grown hG (fun k e _ => Or.inl (hv3 k e))).anti (A' := fun b => b < B ∨ (Value.slice (some ⟨gg, 0, none⟩) (D.length + 1) cap3).ownBlock = some b) fun b hb _ => by
      rcases hA b hb with (hb | hb) | hb
      · exact Or.inl (by omega)
      · exact Or.inl (hv3 b hb)
      · exact Or.inr hb
    refine Safe.mono (ψ := fun w => ∀ y ∈ D ++ [x2], CdIn w (max hh h2) y) (s1.and s2) fun w' hw y hy => ?_
    rcases List.mem_append.1 hy with h | h
    · exact cdin_up _ _ (Nat.le_max_left _ _) (hw.1 y h)
    · obtain rfl := List.mem_singleton.1 h
      exact cdin_up _ _ (Nat.le_max_right _ _) hw.2

set_option maxRecDepth 20000 in
set_option maxHeartbeats 16000000 in
theorem rparse_step15 (bq : Bool) (h : Nat) (hP : RPartAt bq h) : RParseAt bq h := by
  intro l oa cap bb o am aoa acap ab ao ha w hs hz han hfor
  obtain ⟨N, hN⟩ : ∃ N, l.length = N := ⟨_, rfl⟩
  obtain ⟨A, hA⟩ : ∃ A, am.length = A := ⟨_, rfl⟩
  obtain ⟨L, hL⟩ : ∃ L, l.map Vl.c = L := ⟨_, rfl⟩
  have hLN : L.length = N := by rw [← hL, List.length_map, hN]
  have hN30 : N ≤ 1073741824 := by have := sz_len L; rw [← hL] at this; rw [← hLN, ← hL]; omega
  have hcl := hs.sl.le
  have hcm := hs.sl.max
  unfold maxLen at hcm
  have hb := below_box w (.cells #[.int .i64 0, .slice none 0 0, .int .i64 0, .int .i64 0, .string ⟨#[]⟩, .int .i64 0, .int .i64 0, .int .i64 0, .int .i64 0, .int .i64 0, .slice none 0 0, .string ⟨#[]⟩, .string ⟨#[]⟩, .bool false] 49)
  have h1 := Blk.new w 49 #[.int .i64 0, .slice none 0 0, .int .i64 0, .int .i64 0, .string ⟨#[]⟩, .int .i64 0, .int .i64 0, .int .i64 0, .int .i64 0, .int .i64 0, .slice none 0 0, .string ⟨#[]⟩, .string ⟨#[]⟩, .bool false]
  have HAT := Lib.hid (show ∀ wx, Below w.heap.size w wx → ∀ i : Nat, i ≤ 4611686018427387904 → Calls Try.prog 115 #[.slice aoa A acap, .int .i64 (i : Int)] wx fun e w' => e = .returned (av ((am[i]?).getD zeroAn)) ∧ Below wx.heap.size wx w' from fun wx hx i hi => by
    have := at15_any ha am aoa acap ab ao i wx (han.below hx) hi
    rw [hA] at this
    exact this)
  have HPT := Lib.hid (show ∀ (i : Nat) (x : Vl), l[i]? = some x → opensV x.c = true → ∀ wx, Below w.heap.size w wx → Calls Try.prog 114 #[vv x, av ((am[i]?).getD zeroAn)] wx fun e w' => (∃ r, e = .returned r ∧ isQd (· < wx.heap.size) (pR bq h x.c) r w') ∧ Below wx.heap.size wx w' from fun i x hi ho wx hx => by
    have hxv := (hs.each i x hi).below h hx
    have hLi : L[i]? = some x.c := by rw [← hL, List.getElem?_map, hi]; rfl
    have hmem : x.c ∈ l.map Vl.c := List.mem_map_of_mem (List.mem_of_getElem? hi)
    obtain ⟨ha2, hax⟩ : ∃ ha2, AnIn wx ha2 ((am[i]?).getD zeroAn) := by
      cases hai : am[i]? with
      | none => exact ⟨1, zero_an wx 0⟩
      | some a => exact ⟨ha, (han.each i a hai).below ha hx⟩
    refine hP x _ ha2 wx hxv hax ?_ ho fun t k hxc => ?_
    · obtain ⟨t, koa, kb, ko, kcap, kids⟩ := x
      rw [Vl.c_mk] at hmem ⊢
      have := sz_kid _ _ hmem
      rw [szV1]
      omega
    · obtain ⟨h, rfl⟩ : ∃ h', h = h' + 1 := by
        cases h with
        | zero => exact (hs.each i x hi).elim
        | succ h => exact ⟨h, rfl⟩
      rw [hL] at hfor
      have := hfor i t k (by rw [hLi, hxc])
      rw [← hxc, if_pos ho] at this
      exact this)
  rw [hN, hA, hL]
  obtain ⟨f, hf⟩ : ∃ f, pR bq h = f := ⟨_, rfl⟩
  obtain ⟨Y, hY⟩ : ∃ Y, parseQ f L = Y := ⟨_, rfl⟩
  rw [hf] at HPT ⊢
  rw [hY]
  rw [hN] at hcl
  have HS := Lib.hid (And.intro (hs.below hb) (And.intro hN (And.intro hL hLN)))
  obtain ⟨g, hg⟩ : ∃ g, w.heap.size = g := ⟨_, rfl⟩
  have hbg := hb
  rw [hg] at h1 hbg
  have H := Lib.hid (And.intro h1 hbg)
  have HBW := Lib.hid hb
  clear hbg
  have HG := Lib.hid hg
  have HY := Lib.hid hY
  clear h1 hb hs hz han hfor hN hA hL hLN hP hf hg hY
  go_enter Try.func92, Try.ntmps92
  go_upto_region 1 with fail
  simp only [HG.out]
  generalize World.alloc w _ = wa at *
  have h1 := H.out.1
  have ca0 : wa.cell? ⟨g, 0, none⟩ = some (.int .i64 0) := (h1).cell 0
  have fca0 := (h1).frozen 0
  have ca1 : wa.cell? ⟨g, 1, none⟩ = some (.slice none 0 0) := (h1).cell 1
  have fca1 := (h1).frozen 1
  have ca2 : wa.cell? ⟨g, 2, none⟩ = some (.int .i64 0) := (h1).cell 2
  have fca2 := (h1).frozen 2
  have ca3 : wa.cell? ⟨g, 3, none⟩ = some (.int .i64 0) := (h1).cell 3
  have fca3 := (h1).frozen 3
  have ca4 : wa.cell? ⟨g, 4, none⟩ = some (.string ⟨#[]⟩) := (h1).cell 4
  have fca4 := (h1).frozen 4
  have ca5 : wa.cell? ⟨g, 5, none⟩ = some (.int .i64 0) := (h1).cell 5
  have fca5 := (h1).frozen 5
  have ca6 : wa.cell? ⟨g, 6, none⟩ = some (.int .i64 0) := (h1).cell 6
  have fca6 := (h1).frozen 6
  have ca7 : wa.cell? ⟨g, 7, none⟩ = some (.int .i64 0) := (h1).cell 7
  have fca7 := (h1).frozen 7
  have ca8 : wa.cell? ⟨g, 8, none⟩ = some (.int .i64 0) := (h1).cell 8
  have fca8 := (h1).frozen 8
  have ca9 : wa.cell? ⟨g, 9, none⟩ = some (.int .i64 0) := (h1).cell 9
  have fca9 := (h1).frozen 9
  have ca10 : wa.cell? ⟨g, 10, none⟩ = some (.slice none 0 0) := (h1).cell 10
  have fca10 := (h1).frozen 10
  have ca11 : wa.cell? ⟨g, 11, none⟩ = some (.string ⟨#[]⟩) := (h1).cell 11
  have fca11 := (h1).frozen 11
  have ca12 : wa.cell? ⟨g, 12, none⟩ = some (.string ⟨#[]⟩) := (h1).cell 12
  have fca12 := (h1).frozen 12
  have ca13 : wa.cell? ⟨g, 13, none⟩ = some (.bool false) := (h1).cell 13
  have fca13 := (h1).frozen 13
  have lca := (h1).lt
  clear h1
  by_cases hN2 : N = 2
  · subst hN2
    have hvs := HS.out.1
    obtain ⟨rfl, hbl⟩ := hvs.sl.lies (by rw [HS.out.2.1]; omega)
    have hila : 0 < l.length := by rw [HS.out.2.1]; omega
    have hlia : l[0]? = some l[0] := List.getElem?_eq_getElem hila
    obtain ⟨xa, hxa⟩ : ∃ x, l[0] = x := ⟨_, rfl⟩
    rw [hxa] at hlia
    have hLia : L[0]? = some xa.c := by rw [← HS.out.2.2.1, List.getElem?_map, hlia]; rfl
    have hvxa := hvs.each 0 xa hlia
    obtain ⟨ta, koaa, kba, koa, kcapa, kidsa⟩ := xa
    obtain ⟨Ka, hKa⟩ : ∃ K, kidsa.length = K := ⟨_, rfl⟩
    have f0 := hvs.cell hlia (j := 0) rfl
    have f1 := hvs.cell hlia (j := 1) rfl
    have f2 := hvs.cell hlia (j := 2) rfl
    have f3 := hvs.cell hlia (j := 3) rfl
    have f4 := hvs.cell hlia (j := 4) rfl
    have f5 := hvs.cell hlia (j := 5) rfl
    have f6 := hvs.cell hlia (j := 6) rfl
    simp only [Nat.zero_mul, Nat.one_mul, Nat.add_zero] at f0 f1 f2 f3 f4 f5 f6
    rw [hKa] at f6
    have ht64a := tk_of_in hvxa
    obtain ⟨tka, tta, ⟨tna, tda⟩, tia, tida⟩ := ta
    have htta : tta.length ≤ 9223372036854775807 := ht64a.2.2
    rw [Vl.c_mk] at hLia
    have hvva : vv (.mk ⟨tka, tta, (tna, tda), tia, tida⟩ koaa kba koa kcapa kidsa) = .agg #[.int .i64 tka, .string ⟨tta.toArray⟩, .int .i64 tna, .int .i64 tda, .bool tia, .bool tida, .slice koaa Ka kcapa] := by rw [← hKa]; rfl
    have HVVa := Lib.hid (And.intro hvva hlia)
    clear hila hxa hvxa ht64a hvva hlia hKa
    have hilb : 1 < l.length := by rw [HS.out.2.1]; omega
    have hlib : l[1]? = some l[1] := List.getElem?_eq_getElem hilb
    obtain ⟨xb, hxb⟩ : ∃ x, l[1] = x := ⟨_, rfl⟩
    rw [hxb] at hlib
    have hLib : L[1]? = some xb.c := by rw [← HS.out.2.2.1, List.getElem?_map, hlib]; rfl
    have hvxb := hvs.each 1 xb hlib
    obtain ⟨tb, koab, kbb, kob, kcapb, kidsb⟩ := xb
    obtain ⟨Kb, hKb⟩ : ∃ K, kidsb.length = K := ⟨_, rfl⟩
    have e0 := hvs.cell hlib (j := 0) rfl
    have e1 := hvs.cell hlib (j := 1) rfl
    have e2 := hvs.cell hlib (j := 2) rfl
    have e3 := hvs.cell hlib (j := 3) rfl
    have e4 := hvs.cell hlib (j := 4) rfl
    have e5 := hvs.cell hlib (j := 5) rfl
    have e6 := hvs.cell hlib (j := 6) rfl
    simp only [Nat.zero_mul, Nat.one_mul, Nat.add_zero] at e0 e1 e2 e3 e4 e5 e6
    rw [hKb] at e6
    have ht64b := tk_of_in hvxb
    obtain ⟨tkb, ttb, ⟨tnb, tdb⟩, tib, tidb⟩ := tb
    have httb : ttb.length ≤ 9223372036854775807 := ht64b.2.2
    rw [Vl.c_mk] at hLib
    have hvvb : vv (.mk ⟨tkb, ttb, (tnb, tdb), tib, tidb⟩ koab kbb kob kcapb kidsb) = .agg #[.int .i64 tkb, .string ⟨ttb.toArray⟩, .int .i64 tnb, .int .i64 tdb, .bool tib, .bool tidb, .slice koab Kb kcapb] := by rw [← hKb]; rfl
    have HVVb := Lib.hid (And.intro hvvb hlib)
    clear hilb hxb hvxb ht64b hvvb hlib hKb
    clear hvs
    have hLL : L = [.mk ⟨tka, tta, (tna, tda), tia, tida⟩ (kidsa.map Vl.c), .mk ⟨tkb, ttb, (tnb, tdb), tib, tidb⟩ (kidsb.map Vl.c)] := by
      have hll := HS.out.2.2.2
      match L, hll with
      | [p, q], _ =>
        obtain rfl := Option.some.inj hLia
        obtain rfl := Option.some.inj hLib
        rfl
    have hY2 := HY.out
    rw [hLL, parseQ_two] at hY2
    clear hLia hLib hLL HY
    have HIS := Lib.hid (show ∀ wx, Calls Try.prog 113 #[.agg #[.int .i64 tka, .string ⟨tta.toArray⟩, .int .i64 tna, .int .i64 tda, .bool tia, .bool tida, .slice koaa Ka kcapa], .string ⟨#[110, 111, 116]⟩] wx fun e w' => e = .returned (.bool (wordV (.mk ⟨tka, tta, (tna, tda), tia, tida⟩ (kidsa.map Vl.c)) == notS)) ∧ Below wx.heap.size wx w' from fun wx => is15_any tka tta tna tda tia tida koaa Ka kcapa (kidsa.map Vl.c) notS (by decide) (by decide) (by decide) htta wx)
    have HO1 := Lib.hid (fun wx => opens15_any tkb ttb tnb tdb tib tidb koab Kb kcapb (kidsb.map Vl.c) wx)
    obtain ⟨B0, hB0⟩ : ∃ b, (wordV (.mk ⟨tka, tta, (tna, tda), tia, tida⟩ (kidsa.map Vl.c)) == notS) = b := ⟨_, rfl⟩
    obtain ⟨B1, hB1⟩ : ∃ b, opensV (.mk ⟨tkb, ttb, (tnb, tdb), tib, tidb⟩ (kidsb.map Vl.c)) = b := ⟨_, rfl⟩
    rw [hB0] at HIS
    rw [hB1] at HO1 hY2
    have gm : (((2 : Nat) : Int) % 2 == 0) = true := by decide
    go_wp2_with fail
    ((with_reducible refine ((HIS.out _)).mono ?_); rintro e w' ⟨rfl, hbw⟩)
    obtain ⟨m0, rfl⟩ := grow_mk hbw
    clear hbw
    cases B0 with
    | false =>
      have hYn : Y = none := by rw [← hY2, if_neg (fun e => by rw [beq_eq_false_iff_ne] at hB0; exact hB0 e.1)]
      have h1 := H.out.1.grow m0
      have HB3 := Lib.hid (H.out.2.trans ((grow_below m0).mono (Nat.le_of_lt H.out.1.lt)))
      have H1 := Lib.hid h1
      clear hY2
      generalize grow wa m0 = wz at *
      clear ca0 fca0 ca1 fca1 ca2 fca2 ca3 fca3 ca4 fca4 ca5 fca5 ca6 fca6 ca7 fca7 ca8 fca8 ca9 fca9 ca10 fca10 ca11 fca11 ca12 fca12 ca13 fca13 lca
      have ca0 : wz.cell? ⟨g, 0, none⟩ = some (.int .i64 0) := (h1).cell 0
      have fca0 := (h1).frozen 0
      have ca1 : wz.cell? ⟨g, 1, none⟩ = some (.slice none 0 0) := (h1).cell 1
      have fca1 := (h1).frozen 1
      have ca2 : wz.cell? ⟨g, 2, none⟩ = some (.int .i64 0) := (h1).cell 2
      have fca2 := (h1).frozen 2
      have ca3 : wz.cell? ⟨g, 3, none⟩ = some (.int .i64 0) := (h1).cell 3
      have fca3 := (h1).frozen 3
      have ca4 : wz.cell? ⟨g, 4, none⟩ = some (.string ⟨#[]⟩) := (h1).cell 4
      have fca4 := (h1).frozen 4
      have ca5 : wz.cell? ⟨g, 5, none⟩ = some (.int .i64 0) := (h1).cell 5
      have fca5 := (h1).frozen 5
      have ca6 : wz.cell? ⟨g, 6, none⟩ = some (.int .i64 0) := (h1).cell 6
      have fca6 := (h1).frozen 6
      have ca7 : wz.cell? ⟨g, 7, none⟩ = some (.int .i64 0) := (h1).cell 7
      have fca7 := (h1).frozen 7
      have ca8 : wz.cell? ⟨g, 8, none⟩ = some (.int .i64 0) := (h1).cell 8
      have fca8 := (h1).frozen 8
      have ca9 : wz.cell? ⟨g, 9, none⟩ = some (.int .i64 0) := (h1).cell 9
      have fca9 := (h1).frozen 9
      have ca10 : wz.cell? ⟨g, 10, none⟩ = some (.slice none 0 0) := (h1).cell 10
      have fca10 := (h1).frozen 10
      have ca11 : wz.cell? ⟨g, 11, none⟩ = some (.string ⟨#[]⟩) := (h1).cell 11
      have fca11 := (h1).frozen 11
      have ca12 : wz.cell? ⟨g, 12, none⟩ = some (.string ⟨#[]⟩) := (h1).cell 12
      have fca12 := (h1).frozen 12
      have ca13 : wz.cell? ⟨g, 13, none⟩ = some (.bool false) := (h1).cell 13
      have fca13 := (h1).frozen 13
      have lca := (h1).lt
      clear h1
      go_wp2_with fail
      have hz := blk_puts [.int .i64 0, .slice none 0 0, .int .i64 0, .int .i64 0, .string ⟨#[]⟩, .int .i64 0, .int .i64 0, .int .i64 0, .int .i64 0, .int .i64 0, .slice none 0 0, .string ⟨#[]⟩, .string ⟨#[]⟩, .bool false] zero14.toList (wz) 0 [] H1.out rfl rfl
      have hbz := HB3.out.trans (below_put14 [.int .i64 0, .slice none 0 0, .int .i64 0, .int .i64 0, .string ⟨#[]⟩, .int .i64 0, .int .i64 0, .int .i64 0, .int .i64 0, .int .i64 0, .slice none 0 0, .string ⟨#[]⟩, .string ⟨#[]⟩, .bool false] (wz) g 0)
      have hgz := grownBy_puts [.int .i64 0, .slice none 0 0, .int .i64 0, .int .i64 0, .string ⟨#[]⟩, .int .i64 0, .int .i64 0, .int .i64 0, .int .i64 0, .int .i64 0, .slice none 0 0, .string ⟨#[]⟩, .string ⟨#[]⟩, .bool false] (wz) g 0
      simp only [puts, Nat.zero_add, Nat.reduceAdd] at hz hbz hgz
      refine bodyPost_ret (v := .tuple #[.agg #[.int .i64 0, .slice none 0 0, .int .i64 0, .int .i64 0, .string ⟨#[]⟩, .int .i64 0, .int .i64 0, .int .i64 0, .int .i64 0, .int .i64 0, .slice none 0 0, .string ⟨#[]⟩, .string ⟨#[]⟩, .bool false], .bool false]) ?_ rfl ?_
      · refine ret_cd2 Try.results92 ?_ ?_ hz rfl
        all_goals rfl
      · refine ⟨_, _, rfl, ?_, ?_, by rw [HG.out]; exact hbz⟩
        · rw [hYn]
          rfl
        · rw [hYn, HG.out]
          exact zero_qd _ _
    | true =>
      go_wp2_with fail
      ((with_reducible refine ((HO1.out _)).mono ?_); rintro e w' ⟨rfl, hbw⟩)
      obtain ⟨m1, rfl⟩ := grow_mk hbw
      clear hbw
      cases B1 with
      | false =>
        have hYn : Y = none := by rw [← hY2, if_neg (fun e => by cases e.2)]
        have h1 := H.out.1.grow (m0.trans m1)
        have HB3 := Lib.hid (H.out.2.trans ((grow_below (m0.trans m1)).mono (Nat.le_of_lt H.out.1.lt)))
        have H1 := Lib.hid h1
        clear hY2
        go_upto_region 4 with fail
        generalize grow wa (m0.trans m1) = wz at *
        clear ca0 fca0 ca1 fca1 ca2 fca2 ca3 fca3 ca4 fca4 ca5 fca5 ca6 fca6 ca7 fca7 ca8 fca8 ca9 fca9 ca10 fca10 ca11 fca11 ca12 fca12 ca13 fca13 lca
        have ca0 : wz.cell? ⟨g, 0, none⟩ = some (.int .i64 0) := (h1).cell 0
        have fca0 := (h1).frozen 0
        have ca1 : wz.cell? ⟨g, 1, none⟩ = some (.slice none 0 0) := (h1).cell 1
        have fca1 := (h1).frozen 1
        have ca2 : wz.cell? ⟨g, 2, none⟩ = some (.int .i64 0) := (h1).cell 2
        have fca2 := (h1).frozen 2
        have ca3 : wz.cell? ⟨g, 3, none⟩ = some (.int .i64 0) := (h1).cell 3
        have fca3 := (h1).frozen 3
        have ca4 : wz.cell? ⟨g, 4, none⟩ = some (.string ⟨#[]⟩) := (h1).cell 4
        have fca4 := (h1).frozen 4
        have ca5 : wz.cell? ⟨g, 5, none⟩ = some (.int .i64 0) := (h1).cell 5
        have fca5 := (h1).frozen 5
        have ca6 : wz.cell? ⟨g, 6, none⟩ = some (.int .i64 0) := (h1).cell 6
        have fca6 := (h1).frozen 6
        have ca7 : wz.cell? ⟨g, 7, none⟩ = some (.int .i64 0) := (h1).cell 7
        have fca7 := (h1).frozen 7
        have ca8 : wz.cell? ⟨g, 8, none⟩ = some (.int .i64 0) := (h1).cell 8
        have fca8 := (h1).frozen 8
        have ca9 : wz.cell? ⟨g, 9, none⟩ = some (.int .i64 0) := (h1).cell 9
        have fca9 := (h1).frozen 9
        have ca10 : wz.cell? ⟨g, 10, none⟩ = some (.slice none 0 0) := (h1).cell 10
        have fca10 := (h1).frozen 10
        have ca11 : wz.cell? ⟨g, 11, none⟩ = some (.string ⟨#[]⟩) := (h1).cell 11
        have fca11 := (h1).frozen 11
        have ca12 : wz.cell? ⟨g, 12, none⟩ = some (.string ⟨#[]⟩) := (h1).cell 12
        have fca12 := (h1).frozen 12
        have ca13 : wz.cell? ⟨g, 13, none⟩ = some (.bool false) := (h1).cell 13
        have fca13 := (h1).frozen 13
        have lca := (h1).lt
        clear h1
        go_wp2_with fail
        have hz := blk_puts [.int .i64 0, .slice none 0 0, .int .i64 0, .int .i64 0, .string ⟨#[]⟩, .int .i64 0, .int .i64 0, .int .i64 0, .int .i64 0, .int .i64 0, .slice none 0 0, .string ⟨#[]⟩, .string ⟨#[]⟩, .bool false] zero14.toList (wz) 0 [] H1.out rfl rfl
        have hbz := HB3.out.trans (below_put14 [.int .i64 0, .slice none 0 0, .int .i64 0, .int .i64 0, .string ⟨#[]⟩, .int .i64 0, .int .i64 0, .int .i64 0, .int .i64 0, .int .i64 0, .slice none 0 0, .string ⟨#[]⟩, .string ⟨#[]⟩, .bool false] (wz) g 0)
        have hgz := grownBy_puts [.int .i64 0, .slice none 0 0, .int .i64 0, .int .i64 0, .string ⟨#[]⟩, .int .i64 0, .int .i64 0, .int .i64 0, .int .i64 0, .int .i64 0, .slice none 0 0, .string ⟨#[]⟩, .string ⟨#[]⟩, .bool false] (wz) g 0
        simp only [puts, Nat.zero_add, Nat.reduceAdd] at hz hbz hgz
        refine bodyPost_ret (v := .tuple #[.agg #[.int .i64 0, .slice none 0 0, .int .i64 0, .int .i64 0, .string ⟨#[]⟩, .int .i64 0, .int .i64 0, .int .i64 0, .int .i64 0, .int .i64 0, .slice none 0 0, .string ⟨#[]⟩, .string ⟨#[]⟩, .bool false], .bool false]) ?_ rfl ?_
        · refine ret_cd2 Try.results92 ?_ ?_ hz rfl
          all_goals rfl
        · refine ⟨_, _, rfl, ?_, ?_, by rw [HG.out]; exact hbz⟩
          · rw [hYn]
            rfl
          · rw [hYn, HG.out]
            exact zero_qd _ _
      | true =>
        have hYs : Y = some (.mk 3 [f (.mk ⟨tkb, ttb, (tnb, tdb), tib, tidb⟩ (kidsb.map Vl.c))] zeroQ) := by rw [← hY2, if_pos ⟨beq_iff_eq.1 hB0, rfl⟩]
        have hpt := HPT.out 1 _ HVVb.out.2 (by rw [Vl.c_mk]; exact hB1)
        rw [HVVb.out.1, Vl.c_mk] at hpt
        obtain ⟨AV, hAV⟩ : ∃ AV, av ((am[1]?).getD zeroAn) = AV := ⟨_, rfl⟩
        obtain ⟨FQ, hFQ⟩ : ∃ FQ, f (.mk ⟨tkb, ttb, (tnb, tdb), tib, tidb⟩ (kidsb.map Vl.c)) = FQ := ⟨_, rfl⟩
        rw [hAV, hFQ] at hpt
        rw [hFQ] at hYs
        have hBZ := HBW.out.trans ((grow_below (m0.trans m1)).mono HBW.out.size)
        have HPI := Lib.hid (show ∀ wx, Below (grow wa (m0.trans m1)).heap.size (grow wa (m0.trans m1)) wx → Calls Try.prog 114 #[.agg #[.int .i64 tkb, .string ⟨ttb.toArray⟩, .int .i64 tnb, .int .i64 tdb, .bool tib, .bool tidb, .slice koab Kb kcapb], AV] wx fun e w' => (∃ r, e = .returned r ∧ isQd (· < wx.heap.size) FQ r w') ∧ Below wx.heap.size wx w' from fun wx hx => hpt wx (hBZ.trans (hx.mono hBZ.size)))
        have HAI := Lib.hid (show ∀ wx, Below (grow wa (m0.trans m1)).heap.size (grow wa (m0.trans m1)) wx → Calls Try.prog 115 #[.slice aoa A acap, .int .i64 1] wx fun e w' => e = .returned AV ∧ Below wx.heap.size wx w' from fun wx hx => by
          have := HAT.out wx (hBZ.trans (hx.mono hBZ.size)) 1 (by omega)
          rw [hAV] at this
          exact this)
        have hcb : ∀ p : Nat, (grow wa (m0.trans m1)).cell? ⟨bb, p, none⟩ = wa.cell? ⟨bb, p, none⟩ := fun p => (grow_below (m0.trans m1)).cell (p := ⟨bb, p, none⟩) hbl
        have h1 := H.out.1.grow (m0.trans m1)
        have HB3 := Lib.hid (H.out.2.trans ((grow_below (m0.trans m1)).mono (Nat.le_of_lt H.out.1.lt)))
        have H1 := Lib.hid h1
        have hlb : bb < (grow wa (m0.trans m1)).heap.size := Nat.lt_of_lt_of_le hbl (grow_size _)
        rw [← hcb] at e0 e1 e2 e3 e4 e5 e6
        clear h1 hcb hpt hAV hFQ hBZ hY2 HPT HAT ca0 fca0 ca1 fca1 ca2 fca2 ca3 fca3 ca4 fca4 ca5 fca5 ca6 fca6 ca7 fca7 ca8 fca8 ca9 fca9 ca10 fca10 ca11 fca11 ca12 fca12 ca13 fca13 lca f0 f1 f2 f3 f4 f5 f6
        go_upto_region 2 with fail
        generalize grow wa (m0.trans m1) = wz at *
        refine wp_region_loose 8 [Loose.claim 4 32 AV, Loose.fw 5 33 (isQd (· < wz.heap.size) FQ) (isQd_stays _ _), Loose.rw 6 34 49 1 wz.heap.size (isQc (· < wz.heap.size) FQ) (isQc_stays _ _), Loose.fw 7 35 (isQ1 wz.heap.size FQ) (isQ1_stays _ _)] (by kernel_rfl) rfl (by kernel_rfl) (by kernel_rfl) (by kernel_rfl) (by kernel_rfl) ?_
        simp only [headL, hushL, List.find?, Loose.claim_i, Loose.cells_i, Loose.rowL_i, Loose.claim_hush, Loose.cells_hush, Loose.rowL_hush, Loose.val_i, Loose.rowS_i, Loose.val_hush, Loose.rowS_hush, Loose.fw_i, Loose.fw_hush, Loose.rw_i, Loose.rw_hush, Nat.reduceBEq, Nat.reduceAdd]
        repeat (go_big_quiet_step (fail))
        refine wpQuiet_nil ⟨fun V m2 => ?_, fun V m2 => ?_⟩
        · simp only [obs_cons, obs_nil, List.getElem?_cons_zero, List.getElem?_cons_succ, fill_nil, fill_claim, fill_cells, fill_rowL, Loose.claim_i, Loose.cells_i, Loose.rowL_i, Act.put, List.setIfInBounds_toArray, List.set_cons_zero, List.set_cons_succ, fill_val, fill_rowS, Loose.val_i, Loose.rowS_i, fill_fw, Loose.fw_i, fill_rw, Loose.rw_i]
          refine ⟨fun _ => ?_, fun hw => ?_, fun hw => ?_, fun hw => ?_, trivial⟩
          · go_wp2_with fail
            ((with_reducible refine (HAI.out _ (grow_below m2)).mono ?_); rintro e w2 ⟨rfl, hbw⟩)
            go_wp2_with fail
            exact post_claim rfl hbw
          · clear hw
            go_wp2_with fail
            ((with_reducible refine (HPI.out _ (grow_below m2)).mono ?_); rintro e w2 ⟨⟨r2, rfl, hq2⟩, hbw⟩)
            have HQ2 := Lib.hid hq2
            clear hq2
            go_wp2_with fail
            exact post_fw rfl (HQ2.out.anti fun b hb => Or.inl (Nat.lt_of_lt_of_le hb (grow_size m2))) hbw
          · obtain ⟨_, h8, _⟩ := hw
            have hq2 : isQd (· < wz.heap.size) FQ (V 5) (grow wz m2) := h8 (by kernel_rfl)
            obtain ⟨pk, pa, pn, pc, ⟨p1, p2, p3⟩, hv⟩ := hq2.cells
            rw [hv] at hq2
            simp only [qcells] at hv hq2
            have HQ2 := Lib.hid hq2
            rw [hv]
            clear hv h8 hq2
            go_wp2_with fail
            exact post_rw rfl (grow_size m2) HQ2.out
          · obtain ⟨_, _, h8, _⟩ := hw
            have h9 : ∃ b cs, V 6 = .slice (some ⟨b, 0, none⟩) 1 1 ∧ wz.heap.size ≤ b ∧ isQc (· < wz.heap.size) FQ cs (grow wz m2) ∧ Blk (grow wz m2) b 49 cs := h8 (by kernel_rfl)
            obtain ⟨gb, cs, hv, hgb, hqc, hbk⟩ := h9
            rw [hv]
            have HQ2 := Lib.hid (And.intro hgb (And.intro hqc hbk))
            clear hv h8 hgb hqc hbk
            go_wp2_with fail
            exact post_fw rfl ⟨gb, cs, rfl, HQ2.out.1, HQ2.out.2.1, HQ2.out.2.2⟩ (Below.refl _ _)
        · simp only [laws_nil, laws_claim, laws_cells, laws_rowL, laws_val, laws_rowS, laws_fw, laws_rw, dist_nil, dist_claim, dist_cells, dist_rowL, dist_val, dist_rowS, dist_fw, dist_rw, dist1_nil, dist1_claim, dist1_cells, dist1_rowL, dist1_val, dist1_fw, dist1_cells_rowL, dist1_rowL_cells, List.drop_succ_cons, List.drop_zero, and_true, fill_nil, fill_claim, fill_cells, fill_rowL, Loose.claim_i, Loose.cells_i, Loose.rowL_i, Act.put, List.setIfInBounds_toArray, List.set_cons_zero, List.set_cons_succ, fill_val, fill_rowS, Loose.val_i, Loose.rowS_i, fill_fw, Loose.fw_i, fill_rw, Loose.rw_i]
          rintro ⟨_, _, gb, cs, hv7, hgb, hqc, hbk⟩ _
          simp only [qcells, zeroQ] at hv7
          rw [hv7]
          have hqd := isQ1_qd (⟨gb, cs, rfl, hgb, hqc, hbk⟩ : isQ1 wz.heap.size FQ _ (grow wz m2))
          simp only [qcells, zeroQ] at hqd
          have HQ5 := Lib.hid hqd
          have h1 := H1.out.grow m2
          have HB4 := Lib.hid (HB3.out.trans ((grow_below m2).mono (Nat.le_of_lt H1.out.lt)))
          have hgw := H1.out.lt
          have H2 := Lib.hid h1
          clear hqc hbk hv7 hqd
          generalize grow wz m2 = wy at *
          have ca0 : wy.cell? ⟨g, 0, none⟩ = some (.int .i64 0) := (h1).cell 0
          have fca0 := (h1).frozen 0
          have ca1 : wy.cell? ⟨g, 1, none⟩ = some (.slice none 0 0) := (h1).cell 1
          have fca1 := (h1).frozen 1
          have ca2 : wy.cell? ⟨g, 2, none⟩ = some (.int .i64 0) := (h1).cell 2
          have fca2 := (h1).frozen 2
          have ca3 : wy.cell? ⟨g, 3, none⟩ = some (.int .i64 0) := (h1).cell 3
          have fca3 := (h1).frozen 3
          have ca4 : wy.cell? ⟨g, 4, none⟩ = some (.string ⟨#[]⟩) := (h1).cell 4
          have fca4 := (h1).frozen 4
          have ca5 : wy.cell? ⟨g, 5, none⟩ = some (.int .i64 0) := (h1).cell 5
          have fca5 := (h1).frozen 5
          have ca6 : wy.cell? ⟨g, 6, none⟩ = some (.int .i64 0) := (h1).cell 6
          have fca6 := (h1).frozen 6
          have ca7 : wy.cell? ⟨g, 7, none⟩ = some (.int .i64 0) := (h1).cell 7
          have fca7 := (h1).frozen 7
          have ca8 : wy.cell? ⟨g, 8, none⟩ = some (.int .i64 0) := (h1).cell 8
          have fca8 := (h1).frozen 8
          have ca9 : wy.cell? ⟨g, 9, none⟩ = some (.int .i64 0) := (h1).cell 9
          have fca9 := (h1).frozen 9
          have ca10 : wy.cell? ⟨g, 10, none⟩ = some (.slice none 0 0) := (h1).cell 10
          have fca10 := (h1).frozen 10
          have ca11 : wy.cell? ⟨g, 11, none⟩ = some (.string ⟨#[]⟩) := (h1).cell 11
          have fca11 := (h1).frozen 11
          have ca12 : wy.cell? ⟨g, 12, none⟩ = some (.string ⟨#[]⟩) := (h1).cell 12
          have fca12 := (h1).frozen 12
          have ca13 : wy.cell? ⟨g, 13, none⟩ = some (.bool false) := (h1).cell 13
          have fca13 := (h1).frozen 13
          have lca := (h1).lt
          clear h1
          subst hYs
          go_wp2_with fail
          have hz := blk_puts [.int .i64 3, .slice (some ⟨gb, 0, none⟩) 1 1, .int .i64 0, .int .i64 0, .string ⟨#[]⟩, .int .i64 0, .int .i64 0, .int .i64 0, .int .i64 0, .int .i64 0, .slice none 0 0, .string ⟨#[]⟩, .string ⟨#[]⟩, .bool false] zero14.toList (wy) 0 [] H2.out rfl rfl
          have hbz := HB4.out.trans (below_put14 [.int .i64 3, .slice (some ⟨gb, 0, none⟩) 1 1, .int .i64 0, .int .i64 0, .string ⟨#[]⟩, .int .i64 0, .int .i64 0, .int .i64 0, .int .i64 0, .int .i64 0, .slice none 0 0, .string ⟨#[]⟩, .string ⟨#[]⟩, .bool false] (wy) g 0)
          have hgz := grownBy_puts [.int .i64 3, .slice (some ⟨gb, 0, none⟩) 1 1, .int .i64 0, .int .i64 0, .string ⟨#[]⟩, .int .i64 0, .int .i64 0, .int .i64 0, .int .i64 0, .int .i64 0, .slice none 0 0, .string ⟨#[]⟩, .string ⟨#[]⟩, .bool false] (wy) g 0
          simp only [puts, Nat.zero_add, Nat.reduceAdd] at hz hbz hgz
          refine bodyPost_ret (v := .tuple #[.agg #[.int .i64 3, .slice (some ⟨gb, 0, none⟩) 1 1, .int .i64 0, .int .i64 0, .string ⟨#[]⟩, .int .i64 0, .int .i64 0, .int .i64 0, .int .i64 0, .int .i64 0, .slice none 0 0, .string ⟨#[]⟩, .string ⟨#[]⟩, .bool false], .bool true]) ?_ rfl ?_
          · refine ret_cd2 Try.results92 ?_ ?_ hz rfl
            all_goals rfl
          · refine ⟨_, _, rfl, ?_, ?_, by rw [HG.out]; exact hbz⟩
            · rfl
            · rw [HG.out]
              exact (HQ5.out.grown hgz (fun k e _ => by have := Option.some.inj e; omega)).anti fun b hb => Or.inl (by omega)
  · have g2 : ((N : Int) == 2) = false := by rw [beq_eq_false_iff_ne]; omega
    have g2n : (N == 2) = false := by rw [beq_eq_false_iff_ne]; omega
    go_upto_region 3 with fail
    by_cases hev : N % 2 = 0
    · have gm : (((N : Int) % 2) == 0) = true := by
        rw [beq_iff_eq]
        omega
      have hYn : Y = none := by rw [← HY.out, parse_even (by rw [HS.out.2.2.2]; exact hev) (by rw [HS.out.2.2.2]; exact hN2)]
      go_wp2_with fail
      have hz := blk_puts [.int .i64 0, .slice none 0 0, .int .i64 0, .int .i64 0, .string ⟨#[]⟩, .int .i64 0, .int .i64 0, .int .i64 0, .int .i64 0, .int .i64 0, .slice none 0 0, .string ⟨#[]⟩, .string ⟨#[]⟩, .bool false] zero14.toList (wa) 0 [] H.out.1 rfl rfl
      have hbz := H.out.2.trans (below_put14 [.int .i64 0, .slice none 0 0, .int .i64 0, .int .i64 0, .string ⟨#[]⟩, .int .i64 0, .int .i64 0, .int .i64 0, .int .i64 0, .int .i64 0, .slice none 0 0, .string ⟨#[]⟩, .string ⟨#[]⟩, .bool false] (wa) g 0)
      have hgz := grownBy_puts [.int .i64 0, .slice none 0 0, .int .i64 0, .int .i64 0, .string ⟨#[]⟩, .int .i64 0, .int .i64 0, .int .i64 0, .int .i64 0, .int .i64 0, .slice none 0 0, .string ⟨#[]⟩, .string ⟨#[]⟩, .bool false] (wa) g 0
      simp only [puts, Nat.zero_add, Nat.reduceAdd] at hz hbz hgz
      refine bodyPost_ret (v := .tuple #[.agg #[.int .i64 0, .slice none 0 0, .int .i64 0, .int .i64 0, .string ⟨#[]⟩, .int .i64 0, .int .i64 0, .int .i64 0, .int .i64 0, .int .i64 0, .slice none 0 0, .string ⟨#[]⟩, .string ⟨#[]⟩, .bool false], .bool false]) ?_ rfl ?_
      · refine ret_cd2 Try.results92 ?_ ?_ hz rfl
        all_goals rfl
      · refine ⟨_, _, rfl, ?_, ?_, by rw [HG.out]; exact hbz⟩
        · rw [hYn]
          rfl
        · rw [hYn, HG.out]
          exact zero_qd _ _
    · have gm : (((N : Int) % 2) == 0) = false := by
        rw [beq_eq_false_iff_ne]
        omega
      have hY2 := HY.out
      rw [parse_odd (by rw [HS.out.2.2.2]; omega), HS.out.2.2.2] at hY2
      have HY2 := Lib.hid hY2
      have hb0 : Below wa.heap.size wa wa := Below.refl _ _
      clear hY2 HY
      go_wp2_with fail
      go_loopg [6, 7, 43] N (fun q s6 s7 s43 wr => ∃ (i ca co : Nat), s6 = .int .i64 ca ∧ s7 = .int .i64 co ∧ s43 = .int .i64 i ∧ Hid (Below wa.heap.size wa wr) ∧ Hid ((oddsL (L.take i)).countP (fun v => wordV v == andS) = ca ∧ (oddsL (L.take i)).countP (fun v => wordV v == orS) = co ∧ (evensL (L.take i)).all opensV = true) ∧ ca ≤ i ∧ co ≤ i ∧ i ≤ N ∧ N - i ≤ q)
      case atStart => exact ⟨0, 0, 0, rfl, rfl, rfl, Lib.hid hb0, Lib.hid ⟨rfl, rfl, rfl⟩, Nat.le_refl _, Nat.le_refl _, Nat.zero_le _, Nat.le_refl _⟩
      case round =>
        clear ca0 fca0 ca1 fca1 ca2 fca2 ca3 fca3 ca4 fca4 ca5 fca5 ca6 fca6 ca7 fca7 ca8 fca8 ca9 fca9 ca10 fca10 ca11 fca11 ca12 fca12 ca13 fca13 lca
        obtain ⟨i, ca, co, rfl, rfl, rfl, hB, hC, hca, hco, hiN, hq⟩ := hrel
        by_cases hi : i < N
        · have gi : decide ((i : Int) < (N : Int)) = true := by simpa using hi
          have gin : decide (i < N) = true := by simpa using hi
          have ij0 : (0 : Int) ≤ (i : Int) := Int.natCast_nonneg _
          have ijN : (i : Int) < (N : Int) := by omega
          have hil : i < l.length := by rw [HS.out.2.1]; exact hi
          have hli : l[i]? = some l[i] := List.getElem?_eq_getElem hil
          obtain ⟨x, hx⟩ : ∃ x, l[i] = x := ⟨_, rfl⟩
          rw [hx] at hli
          have hLi : L[i]? = some x.c := by rw [← HS.out.2.2.1, List.getElem?_map, hli]; rfl
          have hLt : L.take (i + 1) = L.take i ++ [x.c] := by rw [List.take_add_one, hLi]; rfl
          have hLl : (L.take i).length = i := by rw [List.length_take, HS.out.2.2.2]; omega
          have hvs := HS.out.1.below hB.out
          obtain ⟨rfl, hbl⟩ := hvs.sl.lies (by rw [HS.out.2.1]; omega)
          have hvx := hvs.each i x hli
          obtain ⟨t, koa, kb, ko, kcap, kids⟩ := x
          obtain ⟨K, hK⟩ : ∃ K, kids.length = K := ⟨_, rfl⟩
          have f0 := hvs.cell hli (j := 0) rfl
          have f1 := hvs.cell hli (j := 1) rfl
          have f2 := hvs.cell hli (j := 2) rfl
          have f3 := hvs.cell hli (j := 3) rfl
          have f4 := hvs.cell hli (j := 4) rfl
          have f5 := hvs.cell hli (j := 5) rfl
          have f6 := hvs.cell hli (j := 6) rfl
          rw [Nat.add_zero] at f0
          rw [hK] at f6
          have ht64 := tk_of_in hvx
          obtain ⟨tk, tt, ⟨tn, td⟩, ti, tid⟩ := t
          have htt : tt.length ≤ 9223372036854775807 := ht64.2.2
          rw [Vl.c_mk] at hLi hLt
          have hvv : vv (.mk ⟨tk, tt, (tn, td), ti, tid⟩ koa kb ko kcap kids) = .agg #[.int .i64 tk, .string ⟨tt.toArray⟩, .int .i64 tn, .int .i64 td, .bool ti, .bool tid, .slice koa K kcap] := by rw [← hK]; rfl
          have HVV := Lib.hid (And.intro hvv hli)
          clear hvs hil hx hvx ht64 hvv hli hK
          have HOP := Lib.hid (fun wx => opens15_any tk tt tn td ti tid koa K kcap (kids.map Vl.c) wx)
          have HIA := Lib.hid (show ∀ wx, Calls Try.prog 113 #[.agg #[.int .i64 tk, .string ⟨tt.toArray⟩, .int .i64 tn, .int .i64 td, .bool ti, .bool tid, .slice koa K kcap], .string ⟨#[97, 110, 100]⟩] wx fun e w' => e = .returned (.bool (wordV (.mk ⟨tk, tt, (tn, td), ti, tid⟩ (kids.map Vl.c)) == andS)) ∧ Below wx.heap.size wx w' from fun wx => is15_any tk tt tn td ti tid koa K kcap (kids.map Vl.c) andS (by decide) (by decide) (by decide) htt wx)
          have HIO := Lib.hid (show ∀ wx, Calls Try.prog 113 #[.agg #[.int .i64 tk, .string ⟨tt.toArray⟩, .int .i64 tn, .int .i64 td, .bool ti, .bool tid, .slice koa K kcap], .string ⟨#[111, 114]⟩] wx fun e w' => e = .returned (.bool (wordV (.mk ⟨tk, tt, (tn, td), ti, tid⟩ (kids.map Vl.c)) == orS)) ∧ Below wx.heap.size wx w' from fun wx => is15_any tk tt tn td ti tid koa K kcap (kids.map Vl.c) orS (by decide) (by decide) (by decide) htt wx)
          obtain ⟨BO, hBO⟩ : ∃ b, opensV (.mk ⟨tk, tt, (tn, td), ti, tid⟩ (kids.map Vl.c)) = b := ⟨_, rfl⟩
          obtain ⟨BA, hBA⟩ : ∃ b, (wordV (.mk ⟨tk, tt, (tn, td), ti, tid⟩ (kids.map Vl.c)) == andS) = b := ⟨_, rfl⟩
          obtain ⟨BR, hBR⟩ : ∃ b, (wordV (.mk ⟨tk, tt, (tn, td), ti, tid⟩ (kids.map Vl.c)) == orS) = b := ⟨_, rfl⟩
          rw [hBO] at HOP
          rw [hBA] at HIA
          rw [hBR] at HIO
          have HBB := Lib.hid (And.intro hBO (And.intro hBA hBR))
          clear hBO hBA hBR
          go_upto_region 9 with fail
          have hbx := below_box wr (.cells #[.int .i64 tk, .string ⟨tt.toArray⟩, .int .i64 tn, .int .i64 td, .bool ti, .bool tid, .slice koa K kcap] 74)
          have h9 := Blk.new wr 74 #[.int .i64 tk, .string ⟨tt.toArray⟩, .int .i64 tn, .int .i64 td, .bool ti, .bool tid, .slice koa K kcap]
          have HB2 := Lib.hid (hB.out.trans (hbx.mono hB.out.size))
          clear hB hbx f0 f1 f2 f3 f4 f5 f6
          generalize wr.heap.size = g9 at *
          generalize World.alloc wr _ = wv at *
          have cv0 : wv.cell? ⟨g9, 0, none⟩ = some (.int .i64 tk) := (h9).cell 0
          have fcv0 := (h9).frozen 0
          have cv1 : wv.cell? ⟨g9, 1, none⟩ = some (.string ⟨tt.toArray⟩) := (h9).cell 1
          have fcv1 := (h9).frozen 1
          have cv2 : wv.cell? ⟨g9, 2, none⟩ = some (.int .i64 tn) := (h9).cell 2
          have fcv2 := (h9).frozen 2
          have cv3 : wv.cell? ⟨g9, 3, none⟩ = some (.int .i64 td) := (h9).cell 3
          have fcv3 := (h9).frozen 3
          have cv4 : wv.cell? ⟨g9, 4, none⟩ = some (.bool ti) := (h9).cell 4
          have fcv4 := (h9).frozen 4
          have cv5 : wv.cell? ⟨g9, 5, none⟩ = some (.bool tid) := (h9).cell 5
          have fcv5 := (h9).frozen 5
          have cv6 : wv.cell? ⟨g9, 6, none⟩ = some (.slice koa K kcap) := (h9).cell 6
          have fcv6 := (h9).frozen 6
          have lcv := (h9).lt
          clear h9
          have hbs := HB2.out.size
          by_cases hie : i % 2 = 0
          · have ge : (((i : Int) % 2) == 0) = true := by rw [beq_iff_eq]; omega
            have ge1 : (((i : Int) % 2) == 1) = false := by rw [beq_eq_false_iff_ne]; omega
            go_wp2_with fail
            ((with_reducible refine ((HOP.out _)).mono ?_); rintro e w' ⟨rfl, hbw⟩)
            obtain ⟨m1, rfl⟩ := grow_mk hbw
            clear hbw
            cases BO with
            | false =>
              have hYn : Y = none := by
                rw [← HY2.out, if_pos]
                rw [Bool.eq_false_iff]
                intro hall
                have := List.all_eq_true.1 hall _ (evens_mem hLi hie)
                rw [HBB.out.1] at this
                cases this
              have h1 := H.out.1.below HB2.out H.out.1.lt
              have h1' := h1.grow m1
              have HB3 := Lib.hid (H.out.2.trans ((below_grow HB2.out m1).mono (Nat.le_of_lt H.out.1.lt)))
              have H1 := Lib.hid h1'
              generalize grow wv m1 = wz at *
              have ca0 : wz.cell? ⟨g, 0, none⟩ = some (.int .i64 0) := (h1').cell 0
              have fca0 := (h1').frozen 0
              have ca1 : wz.cell? ⟨g, 1, none⟩ = some (.slice none 0 0) := (h1').cell 1
              have fca1 := (h1').frozen 1
              have ca2 : wz.cell? ⟨g, 2, none⟩ = some (.int .i64 0) := (h1').cell 2
              have fca2 := (h1').frozen 2
              have ca3 : wz.cell? ⟨g, 3, none⟩ = some (.int .i64 0) := (h1').cell 3
              have fca3 := (h1').frozen 3
              have ca4 : wz.cell? ⟨g, 4, none⟩ = some (.string ⟨#[]⟩) := (h1').cell 4
              have fca4 := (h1').frozen 4
              have ca5 : wz.cell? ⟨g, 5, none⟩ = some (.int .i64 0) := (h1').cell 5
              have fca5 := (h1').frozen 5
              have ca6 : wz.cell? ⟨g, 6, none⟩ = some (.int .i64 0) := (h1').cell 6
              have fca6 := (h1').frozen 6
              have ca7 : wz.cell? ⟨g, 7, none⟩ = some (.int .i64 0) := (h1').cell 7
              have fca7 := (h1').frozen 7
              have ca8 : wz.cell? ⟨g, 8, none⟩ = some (.int .i64 0) := (h1').cell 8
              have fca8 := (h1').frozen 8
              have ca9 : wz.cell? ⟨g, 9, none⟩ = some (.int .i64 0) := (h1').cell 9
              have fca9 := (h1').frozen 9
              have ca10 : wz.cell? ⟨g, 10, none⟩ = some (.slice none 0 0) := (h1').cell 10
              have fca10 := (h1').frozen 10
              have ca11 : wz.cell? ⟨g, 11, none⟩ = some (.string ⟨#[]⟩) := (h1').cell 11
              have fca11 := (h1').frozen 11
              have ca12 : wz.cell? ⟨g, 12, none⟩ = some (.string ⟨#[]⟩) := (h1').cell 12
              have fca12 := (h1').frozen 12
              have ca13 : wz.cell? ⟨g, 13, none⟩ = some (.bool false) := (h1').cell 13
              have fca13 := (h1').frozen 13
              have lca := (h1').lt
              clear h1 h1'
              go_wp2_with fail
              have hz := blk_puts [.int .i64 0, .slice none 0 0, .int .i64 0, .int .i64 0, .string ⟨#[]⟩, .int .i64 0, .int .i64 0, .int .i64 0, .int .i64 0, .int .i64 0, .slice none 0 0, .string ⟨#[]⟩, .string ⟨#[]⟩, .bool false] zero14.toList (wz) 0 [] H1.out rfl rfl
              have hbz := HB3.out.trans (below_put14 [.int .i64 0, .slice none 0 0, .int .i64 0, .int .i64 0, .string ⟨#[]⟩, .int .i64 0, .int .i64 0, .int .i64 0, .int .i64 0, .int .i64 0, .slice none 0 0, .string ⟨#[]⟩, .string ⟨#[]⟩, .bool false] (wz) g 0)
              have hgz := grownBy_puts [.int .i64 0, .slice none 0 0, .int .i64 0, .int .i64 0, .string ⟨#[]⟩, .int .i64 0, .int .i64 0, .int .i64 0, .int .i64 0, .int .i64 0, .slice none 0 0, .string ⟨#[]⟩, .string ⟨#[]⟩, .bool false] (wz) g 0
              simp only [puts, Nat.zero_add, Nat.reduceAdd] at hz hbz hgz
              refine bodyPost_ret (v := .tuple #[.agg #[.int .i64 0, .slice none 0 0, .int .i64 0, .int .i64 0, .string ⟨#[]⟩, .int .i64 0, .int .i64 0, .int .i64 0, .int .i64 0, .int .i64 0, .slice none 0 0, .string ⟨#[]⟩, .string ⟨#[]⟩, .bool false], .bool false]) ?_ rfl ?_
              · refine ret_cd2 Try.results92 ?_ ?_ hz rfl
                all_goals rfl
              · refine ⟨_, _, rfl, ?_, ?_, by rw [HG.out]; exact hbz⟩
                · rw [hYn]
                  rfl
                · rw [hYn, HG.out]
                  exact zero_qd _ _
            | true =>
              go_wp2_with fail
              go_roundg (N - (i + 1))
              case measure => omega
              case rel =>
                refine ⟨i + 1, ca, co, rfl, rfl, by go_num, Lib.hid (below_grow HB2.out m1), Lib.hid ?_, by omega, by omega, hi, Nat.le_refl _⟩
                rw [hLt, odds_snoc, if_neg (by rw [hLl]; omega), evens_snoc, if_pos (by rw [hLl]; omega), List.all_append, hC.out.2.2]
                exact ⟨hC.out.1, hC.out.2.1, by simp [HBB.out.1]⟩
          · have ge : (((i : Int) % 2) == 0) = false := by rw [beq_eq_false_iff_ne]; omega
            have ge1 : (((i : Int) % 2) == 1) = true := by rw [beq_iff_eq]; omega
            have hoo : oddsL (L.take (i + 1)) = oddsL (L.take i) ++ [.mk ⟨tk, tt, (tn, td), ti, tid⟩ (kids.map Vl.c)] := by rw [hLt, odds_snoc, if_pos (by rw [hLl]; omega)]
            have hee : evensL (L.take (i + 1)) = evensL (L.take i) := by rw [hLt, evens_snoc, if_neg (by rw [hLl]; omega)]
            have hcA : (oddsL (L.take (i + 1))).countP (fun v => wordV v == andS) = ca + (if BA = true then 1 else 0) ∧ (oddsL (L.take (i + 1))).countP (fun v => wordV v == orS) = co + (if BR = true then 1 else 0) ∧ (evensL (L.take (i + 1))).all opensV = true :=
              ⟨by rw [hoo, List.countP_append, hC.out.1, List.countP_singleton, HBB.out.2.1], by rw [hoo, List.countP_append, hC.out.2.1, List.countP_singleton, HBB.out.2.2], by rw [hee]; exact hC.out.2.2⟩
            have HCA := Lib.hid hcA
            clear hcA hC hoo hee
            go_wp2_with fail
            ((with_reducible refine ((HIA.out _)).mono ?_); rintro e w' ⟨rfl, hbw⟩)
            obtain ⟨m1, rfl⟩ := grow_mk hbw
            clear hbw
            cases BA with
            | false =>
              go_wp2_with fail
              ((with_reducible refine ((HIO.out _)).mono ?_); rintro e w' ⟨rfl, hbw⟩)
              obtain ⟨m2, rfl⟩ := grow_mk hbw
              clear hbw
              cases BR with
              | false =>
                go_wp2_with fail
                go_roundg (N - (i + 1))
                case measure => omega
                case rel => exact ⟨i + 1, ca, co, rfl, rfl, by go_num, Lib.hid (below_grow HB2.out _), HCA, by omega, by omega, hi, Nat.le_refl _⟩
              | true =>
                go_wp2_with fail
                go_roundg (N - (i + 1))
                case measure => omega
                case rel => exact ⟨i + 1, ca, co + 1, rfl, by go_num, by go_num, Lib.hid (below_grow HB2.out _), HCA, by omega, by omega, hi, Nat.le_refl _⟩
            | true =>
              go_wp2_with fail
              ((with_reducible refine ((HIO.out _)).mono ?_); rintro e w' ⟨rfl, hbw⟩)
              obtain ⟨m2, rfl⟩ := grow_mk hbw
              clear hbw
              cases BR with
              | false =>
                go_wp2_with fail
                go_roundg (N - (i + 1))
                case measure => omega
                case rel => exact ⟨i + 1, ca + 1, co, by go_num, rfl, by go_num, Lib.hid (below_grow HB2.out _), HCA, by omega, by omega, hi, Nat.le_refl _⟩
              | true =>
                go_wp2_with fail
                go_roundg (N - (i + 1))
                case measure => omega
                case rel => exact ⟨i + 1, ca + 1, co + 1, by go_num, by go_num, by go_num, Lib.hid (below_grow HB2.out _), HCA, by omega, by omega, hi, Nat.le_refl _⟩
        · obtain rfl : N = i := by omega
          have gi : decide ((N : Int) < (N : Int)) = false := by simp
          have gin : decide (N < N) = false := by simp
          obtain ⟨n2, hn2⟩ : ∃ n2, N / 2 = n2 := ⟨_, rfl⟩
          have hq2 : ((N : Int) / 2) = (n2 : Int) := by omega
          have hCC := hC.out
          rw [List.take_of_length_le (by rw [HS.out.2.2.2]; omega)] at hCC
          have hY3 := HY2.out
          rw [hCC.1, hCC.2.1, hCC.2.2, hn2] at hY3
          simp only [Bool.true_eq_false, if_false] at hY3
          have HEV := Lib.hid hCC.2.2
          go_upto_region 18 with fail
          try simp only [hq2]
          clear hCC hC HY2
          by_cases hok : ca = n2 ∨ co = n2
          · rw [if_neg (by omega)] at hY3
            have HY3 := Lib.hid hY3
            clear hY3
            go_cut [79] from 72 to 79 (fun s79 wx => s79 = .bool false ∧ wx = wr)
            case first =>
              by_cases hcA : ca = n2
              · have e1 : ((ca : Int) == (n2 : Int)) = true := by rw [beq_iff_eq]; omega
                have e1n : (ca == n2) = true := by rw [beq_iff_eq]; omega
                have e1b : ((ca : Int) != (n2 : Int)) = false := by rw [bne, e1]; rfl
                clear hcA hok
                go_wp2_with fail
                go_meet
                exact ⟨rfl, rfl⟩
              · have hcR : co = n2 := by omega
                have e1 : ((ca : Int) == (n2 : Int)) = false := by rw [beq_eq_false_iff_ne]; omega
                have e1n : (ca == n2) = false := by rw [beq_eq_false_iff_ne]; omega
                have e2 : ((co : Int) == (n2 : Int)) = true := by rw [beq_iff_eq]; omega
                have e2n : (co == n2) = true := by rw [beq_iff_eq]; omega
                have e1b : ((ca : Int) != (n2 : Int)) = true := by rw [bne, e1]; rfl
                have e2b : ((co : Int) != (n2 : Int)) = false := by rw [bne, e2]; rfl
                clear hcA hcR hok
                go_wp2_with fail
                go_meet
                exact ⟨rfl, rfl⟩
            case rest =>
              obtain ⟨rfl, rfl⟩ := hcut
              have hbw := Lib.hid hB.out
              have hbw2 := Lib.hid HBW.out
              clear hB
              go_wp2_with fail
              go_loopg [11, 12] (N + 1) (fun q s11 s12 wr => ∃ (j : Nat) (D : List Cd) (v : Value), s12 = .int .i64 j ∧ s11 = v ∧ Hid (Kn wa.heap.size wa wr v D) ∧ Hid (D.map Cd.q = (evensL (L.take j)).map f) ∧ D.length ≤ j ∧ j % 2 = 0 ∧ j ≤ N + 1 ∧ N + 1 - j ≤ q)
              case atStart => exact ⟨0, [], _, rfl, rfl, Lib.hid ⟨hbw.out, World.ownsRow_nil _ _ _ _, fun x hx => (by cases hx), 0, fun _ _ _ x hx => by cases hx⟩, Lib.hid rfl, Nat.le_refl _, rfl, Nat.zero_le _, Nat.le_refl _⟩
              case round =>
                clear hbw
                obtain ⟨j, D, v, rfl, rfl, hK, hD, hDj, hj2, hjN, hq⟩ := hrel
                by_cases hi : j < N
                · have gi : decide ((j : Int) < (N : Int)) = true := by simpa using hi
                  have gin : decide (j < N) = true := by simpa using hi
                  have ij0 : (0 : Int) ≤ (j : Int) := Int.natCast_nonneg _
                  have ijN : (j : Int) < (N : Int) := by omega
                  have hil : j < l.length := by rw [HS.out.2.1]; exact hi
                  have hli : l[j]? = some l[j] := List.getElem?_eq_getElem hil
                  obtain ⟨x, hx⟩ : ∃ x, l[j] = x := ⟨_, rfl⟩
                  rw [hx] at hli
                  have hLi : L[j]? = some x.c := by rw [← HS.out.2.2.1, List.getElem?_map, hli]; rfl
                  have hvs := HS.out.1.below hK.out.bl
                  obtain ⟨rfl, hbl⟩ := hvs.sl.lies (by rw [HS.out.2.1]; omega)
                  have hvx := hvs.each j x hli
                  obtain ⟨t, koa, kb, ko, kcap, kids⟩ := x
                  obtain ⟨K, hKn⟩ : ∃ K, kids.length = K := ⟨_, rfl⟩
                  have f0 := hvs.cell hli (j := 0) rfl
                  have f1 := hvs.cell hli (j := 1) rfl
                  have f2 := hvs.cell hli (j := 2) rfl
                  have f3 := hvs.cell hli (j := 3) rfl
                  have f4 := hvs.cell hli (j := 4) rfl
                  have f5 := hvs.cell hli (j := 5) rfl
                  have f6 := hvs.cell hli (j := 6) rfl
                  rw [Nat.add_zero] at f0
                  rw [hKn] at f6
                  have ht64 := tk_of_in hvx
                  obtain ⟨tk, tt, ⟨tn, td⟩, ti, tid⟩ := t
                  have htt : tt.length ≤ 9223372036854775807 := ht64.2.2
                  rw [Vl.c_mk] at hLi
                  have hvv : vv (.mk ⟨tk, tt, (tn, td), ti, tid⟩ koa kb ko kcap kids) = .agg #[.int .i64 tk, .string ⟨tt.toArray⟩, .int .i64 tn, .int .i64 td, .bool ti, .bool tid, .slice koa K kcap] := by rw [← hKn]; rfl
                  have HVV := Lib.hid (And.intro hvv hli)
                  clear hil hx hvx ht64 hvv hli hKn
                  have hop : opensV (.mk ⟨tk, tt, (tn, td), ti, tid⟩ (kids.map Vl.c)) = true := List.all_eq_true.1 HEV.out _ (evens_mem hLi hj2)
                  have hDn : (evensL (L.take (j + 2))).map f = D.map Cd.q ++ [f (.mk ⟨tk, tt, (tn, td), ti, tid⟩ (kids.map Vl.c))] := by
                    have hjl : j < L.length := by rw [HS.out.2.2.2]; exact hi
                    rw [evens_step hjl hj2, List.map_append, hD.out, List.map_singleton]
                    rw [List.getElem?_eq_getElem hjl] at hLi
                    rw [Option.some.inj hLi]
                  have HDN := Lib.hid hDn
                  have hpt := HPT.out j _ HVV.out.2 (by rw [Vl.c_mk]; exact hop)
                  rw [HVV.out.1, Vl.c_mk] at hpt
                  obtain ⟨AV, hAV⟩ : ∃ AV, av ((am[j]?).getD zeroAn) = AV := ⟨_, rfl⟩
                  obtain ⟨FQ, hFQ⟩ : ∃ FQ, f (.mk ⟨tk, tt, (tn, td), ti, tid⟩ (kids.map Vl.c)) = FQ := ⟨_, rfl⟩
                  rw [hAV, hFQ] at hpt
                  rw [hFQ] at HDN
                  have hBZ := hbw2.out.trans (hK.out.bl.mono hbw2.out.size)
                  have HPI := Lib.hid (show ∀ wx, Below wr.heap.size wr wx → Calls Try.prog 114 #[.agg #[.int .i64 tk, .string ⟨tt.toArray⟩, .int .i64 tn, .int .i64 td, .bool ti, .bool tid, .slice koa K kcap], AV] wx fun e w' => (∃ r, e = .returned r ∧ isQd (· < wx.heap.size) FQ r w') ∧ Below wx.heap.size wx w' from fun wx hx => hpt wx (hBZ.trans (hx.mono hBZ.size)))
                  have HAI := Lib.hid (show ∀ wx, Below wr.heap.size wr wx → Calls Try.prog 115 #[.slice aoa A acap, .int .i64 (j : Int)] wx fun e w' => e = .returned AV ∧ Below wx.heap.size wx w' from fun wx hx => by
                    have := HAT.out wx (hBZ.trans (hx.mono hBZ.size)) j (by omega)
                    rw [hAV] at this
                    exact this)
                  clear hop hDn hpt hAV hFQ hBZ hLi HVV hD
                  go_upto_region 24 with fail
                  refine wp_region_loose 10 [Loose.claim 7 94 AV, Loose.fw 8 95 (isQd (· < wr.heap.size) FQ) (isQd_stays _ _), Loose.rw 9 96 49 1 wr.heap.size (isQc (· < wr.heap.size) FQ) (isQc_stays _ _)] (by kernel_rfl) rfl (by kernel_rfl) (by kernel_rfl) (by kernel_rfl) (by kernel_rfl) ?_
                  simp only [headL, hushL, List.find?, Loose.claim_i, Loose.cells_i, Loose.rowL_i, Loose.claim_hush, Loose.cells_hush, Loose.rowL_hush, Loose.val_i, Loose.rowS_i, Loose.val_hush, Loose.rowS_hush, Loose.fw_i, Loose.fw_hush, Loose.rw_i, Loose.rw_hush, Nat.reduceBEq, Nat.reduceAdd]
                  repeat (go_big_quiet_step (fail))
                  refine wpQuiet_nil ⟨fun V m2 => ?_, fun V m2 => ?_⟩
                  · simp only [obs_cons, obs_nil, List.getElem?_cons_zero, List.getElem?_cons_succ, fill_nil, fill_claim, fill_cells, fill_rowL, Loose.claim_i, Loose.cells_i, Loose.rowL_i, Act.put, List.setIfInBounds_toArray, List.set_cons_zero, List.set_cons_succ, fill_val, fill_rowS, Loose.val_i, Loose.rowS_i, fill_fw, Loose.fw_i, fill_rw, Loose.rw_i]
                    refine ⟨fun _ => ?_, fun hw => ?_, fun hw => ?_, trivial⟩
                    · go_wp2_with fail
                      ((with_reducible refine (HAI.out _ (grow_below m2)).mono ?_); rintro e w2 ⟨rfl, hbw⟩)
                      go_wp2_with fail
                      exact post_claim rfl hbw
                    · clear hw
                      go_wp2_with fail
                      ((with_reducible refine (HPI.out _ (grow_below m2)).mono ?_); rintro e w2 ⟨⟨r2, rfl, hq2⟩, hbw⟩)
                      have HQ2 := Lib.hid hq2
                      clear hq2
                      go_wp2_with fail
                      exact post_fw rfl (HQ2.out.anti fun b hb => Or.inl (Nat.lt_of_lt_of_le hb (grow_size m2))) hbw
                    · obtain ⟨_, h8, _⟩ := hw
                      have hq2 : isQd (· < wr.heap.size) FQ (V 8) (grow wr m2) := h8 (by kernel_rfl)
                      obtain ⟨pk, pa, pn, pc, ⟨p1, p2, p3⟩, hv⟩ := hq2.cells
                      rw [hv] at hq2
                      simp only [qcells] at hv hq2
                      have HQ2 := Lib.hid hq2
                      rw [hv]
                      clear hv h8 hq2
                      go_wp2_with fail
                      exact post_rw rfl (grow_size m2) HQ2.out
                  · simp only [laws_nil, laws_claim, laws_cells, laws_rowL, laws_val, laws_rowS, laws_fw, laws_rw, dist_nil, dist_claim, dist_cells, dist_rowL, dist_val, dist_rowS, dist_fw, dist_rw, dist1_nil, dist1_claim, dist1_cells, dist1_rowL, dist1_val, dist1_fw, dist1_cells_rowL, dist1_rowL_cells, List.drop_succ_cons, List.drop_zero, and_true, fill_nil, fill_claim, fill_cells, fill_rowL, Loose.claim_i, Loose.cells_i, Loose.rowL_i, Act.put, List.setIfInBounds_toArray, List.set_cons_zero, List.set_cons_succ, fill_val, fill_rowS, Loose.val_i, Loose.rowS_i, fill_fw, Loose.fw_i, fill_rw, Loose.rw_i]
                    rintro ⟨_, gb, cs, hv9, hgb, hqc, hbk⟩ _
                    rw [hv9]
                    obtain ⟨pk, pa, pn, pc, ⟨p1, p2, p3⟩, hv⟩ := isQd.cells hqc
                    injection hv with hv
                    subst hv
                    have hq2 : isQd (· < wr.heap.size) FQ _ (grow wr m2) := hqc
                    simp only [qcells] at hq2 hbk
                    have HQ2 := Lib.hid hq2
                    have HKr := Lib.hid (hK.out.below (Nat.le_refl _) (grow_below m2))
                    have HVL := Lib.hid hK.out.row.lt
                    have hgz := grow_size m2
                    have hbwr := hK.out.bl.size
                    clear hv9 hqc hq2 hK HPI HAI HPT HAT
                    generalize grow wr m2 = wz at *
                    have hbs := HKr.out.bl.size
                    have hDB : (D.length + 1) * 168 ≤ 140737488355328 := by omega
                    go_wp2_with (at_builtin; refine wpList_add elCond rfl _ _ rfl rfl HKr.out.row hbs hbk 1 rfl rfl (by simp [Value.oneCell']) hDB (by omega) ?_; intro gg cap3 w3 ho3 hg3 hat hvb; have H3 := Lib.hid (And.intro ho3 (And.intro hg3 hat)); clear ho3 hg3 hat hvb)
                    go_roundg (N + 1 - (j + 2))
                    case measure => omega
                    case rel =>
                      obtain ⟨x2, h2, hxv, hxq2, hxb, hxs⟩ := HQ2.out
                      have hcs : ccells x2 = [.int .i64 pk, .slice pa pn pc, .int .i64 p1, .int .i64 p2, .string ⟨p3.toArray⟩, .int .i64 0, .int .i64 0, .int .i64 0, .int .i64 0, .int .i64 0, .slice none 0 0, .string ⟨#[]⟩, .string ⟨#[]⟩, .bool false] := by
                        unfold cv at hxv
                        injection hxv with e
                        simpa using (congrArg Array.toList e).symm
                      obtain ⟨ho3, hg3, hat⟩ := H3.out
                      refine ⟨j + 2, D ++ [x2], _, by go_num, rfl, Lib.hid (HKr.out.add (Nat.le_refl _) hbwr hgz (fun b e => (HVL.out b e).2) hxb hxs ho3 hcs hg3 (hat.imp id fun e => by omega)), Lib.hid ?_, by simp; omega, by omega, by omega, Nat.le_refl _⟩
                      rw [HDN.out, List.map_append, List.map_cons, List.map_nil, hxq2]
                · have hjL : L.take j = L := List.take_of_length_le (by rw [HS.out.2.2.2]; omega)
                  have hD2 := hD.out
                  rw [hjL] at hD2
                  have gi : decide ((j : Int) < (N : Int)) = false := by simpa using hi
                  have gin : decide (j < N) = false := by simpa using hi
                  have h1 := H.out.1.below hK.out.bl H.out.1.lt
                  have HB3 := Lib.hid (H.out.2.trans (hK.out.bl.mono (Nat.le_of_lt H.out.1.lt)))
                  have H1 := Lib.hid h1
                  have hgwa := H.out.1.lt
                  have ca0 : wr.cell? ⟨g, 0, none⟩ = some (.int .i64 0) := (h1).cell 0
                  have fca0 := (h1).frozen 0
                  have ca1 : wr.cell? ⟨g, 1, none⟩ = some (.slice none 0 0) := (h1).cell 1
                  have fca1 := (h1).frozen 1
                  have ca2 : wr.cell? ⟨g, 2, none⟩ = some (.int .i64 0) := (h1).cell 2
                  have fca2 := (h1).frozen 2
                  have ca3 : wr.cell? ⟨g, 3, none⟩ = some (.int .i64 0) := (h1).cell 3
                  have fca3 := (h1).frozen 3
                  have ca4 : wr.cell? ⟨g, 4, none⟩ = some (.string ⟨#[]⟩) := (h1).cell 4
                  have fca4 := (h1).frozen 4
                  have ca5 : wr.cell? ⟨g, 5, none⟩ = some (.int .i64 0) := (h1).cell 5
                  have fca5 := (h1).frozen 5
                  have ca6 : wr.cell? ⟨g, 6, none⟩ = some (.int .i64 0) := (h1).cell 6
                  have fca6 := (h1).frozen 6
                  have ca7 : wr.cell? ⟨g, 7, none⟩ = some (.int .i64 0) := (h1).cell 7
                  have fca7 := (h1).frozen 7
                  have ca8 : wr.cell? ⟨g, 8, none⟩ = some (.int .i64 0) := (h1).cell 8
                  have fca8 := (h1).frozen 8
                  have ca9 : wr.cell? ⟨g, 9, none⟩ = some (.int .i64 0) := (h1).cell 9
                  have fca9 := (h1).frozen 9
                  have ca10 : wr.cell? ⟨g, 10, none⟩ = some (.slice none 0 0) := (h1).cell 10
                  have fca10 := (h1).frozen 10
                  have ca11 : wr.cell? ⟨g, 11, none⟩ = some (.string ⟨#[]⟩) := (h1).cell 11
                  have fca11 := (h1).frozen 11
                  have ca12 : wr.cell? ⟨g, 12, none⟩ = some (.string ⟨#[]⟩) := (h1).cell 12
                  have fca12 := (h1).frozen 12
                  have ca13 : wr.cell? ⟨g, 13, none⟩ = some (.bool false) := (h1).cell 13
                  have fca13 := (h1).frozen 13
                  have lca := (h1).lt
                  clear h1 hD
                  have HD2 := Lib.hid hD2
                  clear hD2
                  by_cases hn0 : n2 = 0
                  · subst hn0
                    have hY4 := HY3.out
                    rw [if_pos rfl] at hY4
                    have hN1 : N = 1 := by omega
                    obtain ⟨v0, hLv⟩ := List.length_eq_one_iff.1 (HS.out.2.2.2.trans hN1)
                    have hd := HD2.out
                    rw [hLv] at hd hY4
                    obtain ⟨x0, rfl⟩ : ∃ x0, D = [x0] := by
                      have := congrArg List.length hd
                      exact List.length_eq_one_iff.1 (by simpa [evensL] using this)
                    have hxq : x0.q = f v0 := by simpa [evensL] using hd
                    have hYs : Y = some x0.q := by rw [hxq]; exact hY4.symm
                    have hxb := hK.out.bare x0 (List.mem_singleton.2 rfl)
                    obtain ⟨hh, hS⟩ := hK.out.safe
                    obtain ⟨voa, vcap, vg, rfl, hsl, _⟩ := sl_of_own hK.out.row
                    obtain ⟨rfl, hvl⟩ := hsl.lies (by simp)
                    obtain ⟨qk, qa, qn, qc, ⟨q1, q2, q3⟩, hxc⟩ := bare_cells x0 hxb
                    have hsc : ∀ jj vv, (ccells x0)[jj]? = some vv → wr.cell? ⟨vg, jj, none⟩ = some vv := fun jj vv hv => by
                      have := hsl.cell jj vv (by simpa using hv)
                      simpa using this
                    rw [hxc] at hsc
                    have k0 : wr.cell? ⟨vg, 0, none⟩ = some (.int .i64 qk) := hsc 0 _ rfl
                    have k1 : wr.cell? ⟨vg, 1, none⟩ = some (.slice qa qn qc) := hsc 1 _ rfl
                    have k2 : wr.cell? ⟨vg, 2, none⟩ = some (.int .i64 q1) := hsc 2 _ rfl
                    have k3 : wr.cell? ⟨vg, 3, none⟩ = some (.int .i64 q2) := hsc 3 _ rfl
                    have k4 : wr.cell? ⟨vg, 4, none⟩ = some (.string ⟨q3.toArray⟩) := hsc 4 _ rfl
                    have k5 : wr.cell? ⟨vg, 5, none⟩ = some (.int .i64 0) := hsc 5 _ rfl
                    have k6 : wr.cell? ⟨vg, 6, none⟩ = some (.int .i64 0) := hsc 6 _ rfl
                    have k7 : wr.cell? ⟨vg, 7, none⟩ = some (.int .i64 0) := hsc 7 _ rfl
                    have k8 : wr.cell? ⟨vg, 8, none⟩ = some (.int .i64 0) := hsc 8 _ rfl
                    have k9 : wr.cell? ⟨vg, 9, none⟩ = some (.int .i64 0) := hsc 9 _ rfl
                    have k10 : wr.cell? ⟨vg, 10, none⟩ = some (.slice none 0 0) := hsc 10 _ rfl
                    have k11 : wr.cell? ⟨vg, 11, none⟩ = some (.string ⟨#[]⟩) := hsc 11 _ rfl
                    have k12 : wr.cell? ⟨vg, 12, none⟩ = some (.string ⟨#[]⟩) := hsc 12 _ rfl
                    have k13 : wr.cell? ⟨vg, 13, none⟩ = some (.bool false) := hsc 13 _ rfl
                    have HQ5 := Lib.hid (show isQd (fun b => b < wa.heap.size ∨ (Value.slice (some ⟨vg, 0, none⟩) 1 vcap).ownBlock = some b) x0.q (.agg #[.int .i64 qk, .slice qa qn qc, .int .i64 q1, .int .i64 q2, .string ⟨q3.toArray⟩, .int .i64 0, .int .i64 0, .int .i64 0, .int .i64 0, .int .i64 0, .slice none 0 0, .string ⟨#[]⟩, .string ⟨#[]⟩, .bool false]) wr from ⟨x0, hh, by unfold cv; rw [hxc]; rfl, rfl, hxb, hS.mono fun w' hw => hw x0 (List.mem_singleton.2 rfl)⟩)
                    clear hK hsl hS hsc hxc hd hY4 hLv hxq HY3
                    subst hYs
                    go_wp2_with fail
                    have hz := blk_puts [.int .i64 qk, .slice qa qn qc, .int .i64 q1, .int .i64 q2, .string ⟨q3.toArray⟩, .int .i64 0, .int .i64 0, .int .i64 0, .int .i64 0, .int .i64 0, .slice none 0 0, .string ⟨#[]⟩, .string ⟨#[]⟩, .bool false] zero14.toList (wr) 0 [] H1.out rfl rfl
                    have hbz := HB3.out.trans (below_put14 [.int .i64 qk, .slice qa qn qc, .int .i64 q1, .int .i64 q2, .string ⟨q3.toArray⟩, .int .i64 0, .int .i64 0, .int .i64 0, .int .i64 0, .int .i64 0, .slice none 0 0, .string ⟨#[]⟩, .string ⟨#[]⟩, .bool false] (wr) g 0)
                    have hgz := grownBy_puts [.int .i64 qk, .slice qa qn qc, .int .i64 q1, .int .i64 q2, .string ⟨q3.toArray⟩, .int .i64 0, .int .i64 0, .int .i64 0, .int .i64 0, .int .i64 0, .slice none 0 0, .string ⟨#[]⟩, .string ⟨#[]⟩, .bool false] (wr) g 0
                    simp only [puts, Nat.zero_add, Nat.reduceAdd] at hz hbz hgz
                    refine bodyPost_ret (v := .tuple #[.agg #[.int .i64 qk, .slice qa qn qc, .int .i64 q1, .int .i64 q2, .string ⟨q3.toArray⟩, .int .i64 0, .int .i64 0, .int .i64 0, .int .i64 0, .int .i64 0, .slice none 0 0, .string ⟨#[]⟩, .string ⟨#[]⟩, .bool false], .bool true]) ?_ rfl ?_
                    · refine ret_cd2 Try.results92 ?_ ?_ hz rfl
                      all_goals rfl
                    · refine ⟨_, _, rfl, ?_, ?_, by rw [HG.out]; exact hbz⟩
                      · rfl
                      · rw [HG.out]
                        exact (HQ5.out.grown hgz (fun k e _ => Or.inl (by have := Option.some.inj e; omega))).anti fun b hb => Or.inl (Or.inl (by omega))
                  · have e0 : ((n2 : Int) == 0) = false := by rw [beq_eq_false_iff_ne]; omega
                    have e0n : (n2 == 0) = false := by rw [beq_eq_false_iff_ne]; omega
                    have hY4 := HY3.out
                    rw [if_neg hn0] at hY4
                    have hlq : D.length * 8 ≤ 140737488355328 := by omega
                    obtain ⟨hh, hS⟩ := hK.out.safe
                    have hSS : ∃ hh, Safe (· < wa.heap.size) wr fun w => ∀ x ∈ D, CdIn w hh x := ⟨hh, hS.anti fun b hb _ => Or.inl hb⟩
                    have hrq1 := row_qd (k := 1) (by unfold I64; decide) hK.out.row hlq hK.out.bare hSS
                    have hrq2 := row_qd (k := 2) (by unfold I64; decide) hK.out.row hlq hK.out.bare hSS
                    obtain ⟨voa, vcap, vg, rfl, _, _⟩ := sl_of_own hK.out.row
                    rw [HD2.out] at hrq1 hrq2
                    simp only [qcells, zeroQ] at hrq1 hrq2
                    have HR1 := Lib.hid hrq1
                    have HR2 := Lib.hid hrq2
                    clear hK hS hSS hrq1 hrq2 HD2 HY3
                    generalize D.length = DL at *
                    by_cases hcA : ca = n2
                    · have e1 : ((ca : Int) == (n2 : Int)) = true := by rw [beq_iff_eq]; omega
                      have e1n : (ca == n2) = true := by rw [beq_iff_eq]; omega
                      rw [if_pos hcA] at hY4
                      have hYs : Y = some (.mk 1 ((evensL L).map f) zeroQ) := hY4.symm
                      subst hYs
                      clear hcA hok hY4
                      go_wp2_with fail
                      have hz := blk_puts [.int .i64 1, .slice voa DL vcap, .int .i64 0, .int .i64 0, .string ⟨#[]⟩, .int .i64 0, .int .i64 0, .int .i64 0, .int .i64 0, .int .i64 0, .slice none 0 0, .string ⟨#[]⟩, .string ⟨#[]⟩, .bool false] zero14.toList (wr) 0 [] H1.out rfl rfl
                      have hbz := HB3.out.trans (below_put14 [.int .i64 1, .slice voa DL vcap, .int .i64 0, .int .i64 0, .string ⟨#[]⟩, .int .i64 0, .int .i64 0, .int .i64 0, .int .i64 0, .int .i64 0, .slice none 0 0, .string ⟨#[]⟩, .string ⟨#[]⟩, .bool false] (wr) g 0)
                      have hgz := grownBy_puts [.int .i64 1, .slice voa DL vcap, .int .i64 0, .int .i64 0, .string ⟨#[]⟩, .int .i64 0, .int .i64 0, .int .i64 0, .int .i64 0, .int .i64 0, .slice none 0 0, .string ⟨#[]⟩, .string ⟨#[]⟩, .bool false] (wr) g 0
                      simp only [puts, Nat.zero_add, Nat.reduceAdd] at hz hbz hgz
                      refine bodyPost_ret (v := .tuple #[.agg #[.int .i64 1, .slice voa DL vcap, .int .i64 0, .int .i64 0, .string ⟨#[]⟩, .int .i64 0, .int .i64 0, .int .i64 0, .int .i64 0, .int .i64 0, .slice none 0 0, .string ⟨#[]⟩, .string ⟨#[]⟩, .bool false], .bool true]) ?_ rfl ?_
                      · refine ret_cd2 Try.results92 ?_ ?_ hz rfl
                        all_goals rfl
                      · refine ⟨_, _, rfl, ?_, ?_, by rw [HG.out]; exact hbz⟩
                        · rfl
                        · rw [HG.out]
                          exact (HR1.out.grown hgz (fun k e _ => by have := Option.some.inj e; omega)).anti fun b hb => Or.inl (by omega)
                    · have e1 : ((ca : Int) == (n2 : Int)) = false := by rw [beq_eq_false_iff_ne]; omega
                      have e1n : (ca == n2) = false := by rw [beq_eq_false_iff_ne]; omega
                      rw [if_neg hcA] at hY4
                      have hYs : Y = some (.mk 2 ((evensL L).map f) zeroQ) := hY4.symm
                      subst hYs
                      clear hcA hok hY4
                      go_wp2_with fail
                      have hz := blk_puts [.int .i64 2, .slice voa DL vcap, .int .i64 0, .int .i64 0, .string ⟨#[]⟩, .int .i64 0, .int .i64 0, .int .i64 0, .int .i64 0, .int .i64 0, .slice none 0 0, .string ⟨#[]⟩, .string ⟨#[]⟩, .bool false] zero14.toList (wr) 0 [] H1.out rfl rfl
                      have hbz := HB3.out.trans (below_put14 [.int .i64 2, .slice voa DL vcap, .int .i64 0, .int .i64 0, .string ⟨#[]⟩, .int .i64 0, .int .i64 0, .int .i64 0, .int .i64 0, .int .i64 0, .slice none 0 0, .string ⟨#[]⟩, .string ⟨#[]⟩, .bool false] (wr) g 0)
                      have hgz := grownBy_puts [.int .i64 2, .slice voa DL vcap, .int .i64 0, .int .i64 0, .string ⟨#[]⟩, .int .i64 0, .int .i64 0, .int .i64 0, .int .i64 0, .int .i64 0, .slice none 0 0, .string ⟨#[]⟩, .string ⟨#[]⟩, .bool false] (wr) g 0
                      simp only [puts, Nat.zero_add, Nat.reduceAdd] at hz hbz hgz
                      refine bodyPost_ret (v := .tuple #[.agg #[.int .i64 2, .slice voa DL vcap, .int .i64 0, .int .i64 0, .string ⟨#[]⟩, .int .i64 0, .int .i64 0, .int .i64 0, .int .i64 0, .int .i64 0, .slice none 0 0, .string ⟨#[]⟩, .string ⟨#[]⟩, .bool false], .bool true]) ?_ rfl ?_
                      · refine ret_cd2 Try.results92 ?_ ?_ hz rfl
                        all_goals rfl
                      · refine ⟨_, _, rfl, ?_, ?_, by rw [HG.out]; exact hbz⟩
                        · rfl
                        · rw [HG.out]
                          exact (HR2.out.grown hgz (fun k e _ => by have := Option.some.inj e; omega)).anti fun b hb => Or.inl (by omega)
          · rw [if_pos (by omega)] at hY3
            have hYn : Y = none := hY3.symm
            have e1 : ((ca : Int) == (n2 : Int)) = false := by rw [beq_eq_false_iff_ne]; omega
            have e1n : (ca == n2) = false := by rw [beq_eq_false_iff_ne]; omega
            have e2 : ((co : Int) == (n2 : Int)) = false := by rw [beq_eq_false_iff_ne]; omega
            have e2n : (co == n2) = false := by rw [beq_eq_false_iff_ne]; omega
            have e1b : ((ca : Int) != (n2 : Int)) = true := by rw [bne, e1]; rfl
            have e2b : ((co : Int) != (n2 : Int)) = true := by rw [bne, e2]; rfl
            clear hok
            have h1 := H.out.1.below hB.out H.out.1.lt
            have HB3 := Lib.hid (H.out.2.trans (hB.out.mono (Nat.le_of_lt H.out.1.lt)))
            have H1 := Lib.hid h1
            have ca0 : wr.cell? ⟨g, 0, none⟩ = some (.int .i64 0) := (h1).cell 0
            have fca0 := (h1).frozen 0
            have ca1 : wr.cell? ⟨g, 1, none⟩ = some (.slice none 0 0) := (h1).cell 1
            have fca1 := (h1).frozen 1
            have ca2 : wr.cell? ⟨g, 2, none⟩ = some (.int .i64 0) := (h1).cell 2
            have fca2 := (h1).frozen 2
            have ca3 : wr.cell? ⟨g, 3, none⟩ = some (.int .i64 0) := (h1).cell 3
            have fca3 := (h1).frozen 3
            have ca4 : wr.cell? ⟨g, 4, none⟩ = some (.string ⟨#[]⟩) := (h1).cell 4
            have fca4 := (h1).frozen 4
            have ca5 : wr.cell? ⟨g, 5, none⟩ = some (.int .i64 0) := (h1).cell 5
            have fca5 := (h1).frozen 5
            have ca6 : wr.cell? ⟨g, 6, none⟩ = some (.int .i64 0) := (h1).cell 6
            have fca6 := (h1).frozen 6
            have ca7 : wr.cell? ⟨g, 7, none⟩ = some (.int .i64 0) := (h1).cell 7
            have fca7 := (h1).frozen 7
            have ca8 : wr.cell? ⟨g, 8, none⟩ = some (.int .i64 0) := (h1).cell 8
            have fca8 := (h1).frozen 8
            have ca9 : wr.cell? ⟨g, 9, none⟩ = some (.int .i64 0) := (h1).cell 9
            have fca9 := (h1).frozen 9
            have ca10 : wr.cell? ⟨g, 10, none⟩ = some (.slice none 0 0) := (h1).cell 10
            have fca10 := (h1).frozen 10
            have ca11 : wr.cell? ⟨g, 11, none⟩ = some (.string ⟨#[]⟩) := (h1).cell 11
            have fca11 := (h1).frozen 11
            have ca12 : wr.cell? ⟨g, 12, none⟩ = some (.string ⟨#[]⟩) := (h1).cell 12
            have fca12 := (h1).frozen 12
            have ca13 : wr.cell? ⟨g, 13, none⟩ = some (.bool false) := (h1).cell 13
            have fca13 := (h1).frozen 13
            have lca := (h1).lt
            clear h1
            go_wp2_with fail
            have hz := blk_puts [.int .i64 0, .slice none 0 0, .int .i64 0, .int .i64 0, .string ⟨#[]⟩, .int .i64 0, .int .i64 0, .int .i64 0, .int .i64 0, .int .i64 0, .slice none 0 0, .string ⟨#[]⟩, .string ⟨#[]⟩, .bool false] zero14.toList (wr) 0 [] H1.out rfl rfl
            have hbz := HB3.out.trans (below_put14 [.int .i64 0, .slice none 0 0, .int .i64 0, .int .i64 0, .string ⟨#[]⟩, .int .i64 0, .int .i64 0, .int .i64 0, .int .i64 0, .int .i64 0, .slice none 0 0, .string ⟨#[]⟩, .string ⟨#[]⟩, .bool false] (wr) g 0)
            have hgz := grownBy_puts [.int .i64 0, .slice none 0 0, .int .i64 0, .int .i64 0, .string ⟨#[]⟩, .int .i64 0, .int .i64 0, .int .i64 0, .int .i64 0, .int .i64 0, .slice none 0 0, .string ⟨#[]⟩, .string ⟨#[]⟩, .bool false] (wr) g 0
            simp only [puts, Nat.zero_add, Nat.reduceAdd] at hz hbz hgz
            refine bodyPost_ret (v := .tuple #[.agg #[.int .i64 0, .slice none 0 0, .int .i64 0, .int .i64 0, .string ⟨#[]⟩, .int .i64 0, .int .i64 0, .int .i64 0, .int .i64 0, .int .i64 0, .slice none 0 0, .string ⟨#[]⟩, .string ⟨#[]⟩, .bool false], .bool false]) ?_ rfl ?_
            · refine ret_cd2 Try.results92 ?_ ?_ hz rfl
              all_goals rfl
            · refine ⟨_, _, rfl, ?_, ?_, by rw [HG.out]; exact hbz⟩
              · rw [hYn]
                rfl
              · rw [hYn, HG.out]
                exact zero_qd _ _

end Go.Proofs.Ytgjhaanpkfheeaa
