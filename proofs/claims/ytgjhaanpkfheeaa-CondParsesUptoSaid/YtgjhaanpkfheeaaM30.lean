/- Of my texts: Read. -/
import Derived.Test.YtgjhaanpkfheeaaM22
import Derived.Test.YtgjhaanpkfheeaaM23
import Derived.Test.YtgjhaanpkfheeaaM29
namespace Go.Proofs.Ytgjhaanpkfheeaa
set_option linter.unusedVariables false
set_option linter.unusedSimpArgs false
open Go.RowKit

theorem read_not {f : Vt → Qt} {L : List Vt} (h : wordAt L 0 = notS) : readQ f L = match L[1]? with
    | some p => if opensV p = true ∧ L.length ≤ 2 then some (.mk 3 [f p] zeroQ) else none
    | none => none := by
  match L with
  | [] => exact absurd h (by decide)
  | [a] =>
    have h : wordV a = notS := h
    rw [readQ_one, if_pos h]
    rfl
  | [a, b] =>
    have h : wordV a = notS := h
    rw [readQ_two, if_pos h]
    show _ = if opensV b = true ∧ 2 ≤ 2 then _ else _
    simp
  | a :: b :: c :: r =>
    have h : wordV a = notS := h
    rw [readQ_many, if_pos h]
    show none = if opensV b = true ∧ (r.length + 1 + 1 + 1) ≤ 2 then _ else _
    rw [if_neg (by omega)]
theorem read_nil {f : Vt → Qt} {L : List Vt} (h : L[0]? = none) : readQ f L = none := by
  match L with
  | [] => rfl
  | a :: r => cases h
theorem read_shut {f : Vt → Qt} {L : List Vt} {v : Vt} (h : wordAt L 0 ≠ notS) (hv : L[0]? = some v) (ho : opensV v = false) : readQ f L = none := by
  match L with
  | [] => rfl
  | [a] =>
    obtain rfl : a = v := Option.some.inj hv
    have h : wordV a ≠ notS := h
    rw [readQ_one, if_neg h, if_pos ho]
  | [a, b] =>
    obtain rfl : a = v := Option.some.inj hv
    have h : wordV a ≠ notS := h
    rw [readQ_two, if_neg h, if_pos ho]
  | a :: b :: c :: r =>
    obtain rfl : a = v := Option.some.inj hv
    have h : wordV a ≠ notS := h
    rw [readQ_many, if_neg h, if_pos ho]
theorem read_lone {f : Vt → Qt} {L : List Vt} {v : Vt} (h : wordAt L 0 ≠ notS) (hv : L[0]? = some v) (ho : opensV v = true) (hl : L.length = 1) : readQ f L = some (f v) := by
  match L with
  | [a] =>
    obtain rfl : a = v := Option.some.inj hv
    have h : wordV a ≠ notS := h
    rw [readQ_one, if_neg h, if_neg (by rw [ho]; simp)]
theorem read_chain {f : Vt → Qt} {L : List Vt} {v : Vt} (h : wordAt L 0 ≠ notS) (hv : L[0]? = some v) (ho : opensV v = true) (hl : L.length ≠ 1) : readQ f L = if wordAt L 1 = andS then chainQ f andS 1 [f v] (L.drop 1) else if wordAt L 1 = orS then chainQ f orS 2 [f v] (L.drop 1) else none := by
  match L with
  | [] => cases hv
  | [a] => exact absurd rfl hl
  | [a, b] =>
    obtain rfl : a = v := Option.some.inj hv
    have h : wordV a ≠ notS := h
    rw [readQ_two, if_neg h, if_neg (by rw [ho]; simp)]
    rfl
  | a :: b :: c :: r =>
    obtain rfl : a = v := Option.some.inj hv
    have h : wordV a ≠ notS := h
    rw [readQ_many, if_neg h, if_neg (by rw [ho]; simp)]
    rfl
theorem chain_end {f : Vt → Qt} {L : List Vt} {J : List UInt8} {k : Int} {acc : List Qt} {i : Nat} (h : L.length ≤ i) : chainQ f J k acc (L.drop i) = some (.mk k acc zeroQ) := by
  rw [List.drop_eq_nil_of_le h]
  rfl
theorem chain_step {f : Vt → Qt} {L : List Vt} {J : List UInt8} {k : Int} {acc : List Qt} {i : Nat} (h : i < L.length) : chainQ f J k acc (L.drop i) = if wordAt L i = J then (match L[i + 1]? with
    | some v => if opensV v = true then chainQ f J k (acc ++ [f v]) (L.drop (i + 2)) else none
    | none => none) else none := by
  rw [List.drop_eq_getElem_cons h]
  have hw : wordAt L i = wordV L[i] := by
    unfold wordAt
    rw [List.getElem?_eq_getElem h]
    rfl
  rw [hw]
  by_cases h1 : i + 1 < L.length
  · rw [List.drop_eq_getElem_cons h1, List.getElem?_eq_getElem h1, chainQ]
    by_cases hj : wordV L[i] = J
    · by_cases ho : opensV L[i + 1] = true
      · rw [if_pos ⟨hj, ho⟩, if_pos hj]
        simp only [ho, if_true]
      · rw [if_neg (fun e => ho e.2), if_pos hj]
        simp only [ho]
        rfl
    · rw [if_neg (fun e => hj e.1), if_neg hj]
  · rw [List.drop_eq_nil_of_le (by omega), List.getElem?_eq_none (by omega)]
    simp [chainQ]

/-- what comes of read -/
def readEnd (B : Nat) (r : Option Qt) (e : Ending) (w : World) : Prop := match r with
  | some Q => ∃ v, e = .returned v ∧ isQd (· < B) Q v w
  | none => e = barEnd
def ReadQAt (bq : Bool) (h : Nat) : Prop := ∀ (l : List Vl) (oa : Option Addr) (cap bb o gR : Nat) (w : World), Blk w gR 97 #[leafV bq] → VsIn w h oa cap bb o l → (∃ n, mayV n (l.map Vl.c) = true) → szV (l.map Vl.c) ≤ 1073741824 →
  Calls Try.prog 112 #[.pointer (some ⟨gR, 0, none⟩), .slice oa l.length cap] w fun e w' => readEnd w.heap.size (readQ (pQ bq h) (l.map Vl.c)) e w' ∧ Below w.heap.size w w'
def isQc (A : Nat → Prop) (Q : Qt) (cs : Array Value) (w : World) : Prop := isQd A Q (.agg cs) w
theorem isQd_stays (A : Nat → Prop) (Q : Qt) : ∀ v w1 w2, isQd A Q v w1 → Below w1.heap.size w1 w2 → isQd A Q v w2 := fun _ _ _ h hb => h.below hb
theorem isQc_stays (A : Nat → Prop) (Q : Qt) : ∀ v w1 w2, isQc A Q v w1 → Below w1.heap.size w1 w2 → isQc A Q v w2 := fun _ _ _ h hb => isQd.below h hb

/-- a condition in a row of its own is the only kid of one -/
theorem qd_one {B : Nat} {w : World} {Q : Qt} {cs : Array Value} {k : Int} (hq : isQd (· < B) Q (.agg cs) w) (hB : B ≤ w.heap.size) (hk : I64 k) : isQd (· < B) (.mk k [Q] zeroQ) (.agg (qcells k (.slice (some ⟨w.heap.size, 0, none⟩) 1 1) zeroQ).toArray) (w.alloc (.cells cs 49)) := by
  obtain ⟨x, hh, hv, rfl, hb, hs⟩ := hq
  have hcs : cs = (ccells x).toArray := by
    unfold cv at hv
    injection hv
  subst hcs
  have ho := owns_fresh (n := 1) (size := 14) (Blk.new w 49 (ccells x).toArray) hB (by simp [ccells_length]) (by decide)
  refine row_qd (D := [x]) hk (by simpa using ho) (by simp) (fun y hy => ?_) ⟨hh, (hs.alloc _).mono fun w' hw y hy => ?_⟩
  · obtain rfl := List.mem_singleton.1 hy
    exact hb
  · obtain rfl := List.mem_singleton.1 hy
    exact hw

theorem open_or (x : Option Vt) : (∀ v2, x = some v2 → opensV v2 = false) ∨ ∃ v2, x = some v2 ∧ opensV v2 = true := by
  match x with
  | none => exact Or.inl fun v2 h => by cases h
  | some v2 =>
    cases ho2 : opensV v2 with
    | false => exact Or.inl fun v3 h => (Option.some.inj h) ▸ ho2
    | true => exact Or.inr ⟨v2, rfl, ho2⟩
theorem partEnd_shut {B : Nat} {f : Vt → Qt} {x : Option Vt} {e : Ending} {w : World} (h : ∀ v2, x = some v2 → opensV v2 = false) (hp : partEnd B f x e w) : e = barEnd := by
  match x with
  | none => exact hp
  | some v2 =>
    rw [partEnd_not (h v2 rfl)] at hp
    exact hp
theorem match_shut {x : Option Vt} {g : Vt → Option Qt} (h : ∀ v2, x = some v2 → opensV v2 = false) : (match x with
    | some v => if opensV v = true then g v else none
    | none => none) = none := by
  match x with
  | none => rfl
  | some v2 =>
    show (if opensV v2 = true then g v2 else none) = none
    rw [if_neg (by rw [h v2 rfl]; simp)]

/-- the first part, put into the variable 'out' -/
theorem Jn.first {w0 we : World} {Q : Qt} {k : Int} {cs : Array Value} {B3 : Nat} (hb : Below w0.heap.size w0 we) (hq : isQd (· < B3) Q (.agg cs) we) (hB : w0.heap.size ≤ B3) :
    ∃ x : Cd, x.q = Q ∧ Jn w0.heap.size w0 ((we.alloc (.cells cs 49)).alloc (.cells (qcells k (.slice (some ⟨we.heap.size, 0, none⟩) 1 1) zeroQ).toArray 49)) (we.heap.size + 1) k (.slice (some ⟨we.heap.size, 0, none⟩) 1 1) [x] := by
  obtain ⟨x, hh, hv, rfl, hbx, hs⟩ := hq
  have hcs : cs = (ccells x).toArray := by
    unfold cv at hv
    injection hv
  subst hcs
  have hsz : (we.alloc (.cells (ccells x).toArray 49)).heap.size = we.heap.size + 1 := by simp
  have hbox := Blk.new (we.alloc (.cells (ccells x).toArray 49)) 49 (qcells k (.slice (some ⟨we.heap.size, 0, none⟩) 1 1) zeroQ).toArray
  rw [hsz] at hbox
  refine ⟨x, rfl, Jn.start (hh := hh) ((hb.alloc hb.size _).alloc (by simp; exact Nat.le_succ_of_le hb.size) _) hbox ((Blk.new we 49 (ccells x).toArray).old _) (Nat.le_succ_of_le hb.size) hb.size (by omega) hbx ?_⟩
  refine ((hs.wide (A' := fun b => b < w0.heap.size ∨ b = we.heap.size + 1 ∨ b = we.heap.size) fun b h => ?_).alloc _).alloc _
  rcases h with h | h | h
  · exact Or.inl (by omega)
  · exact Or.inr (by omega)
  · exact Or.inr (by omega)

set_option maxRecDepth 20000 in
set_option maxHeartbeats 16000000 in
theorem read_step (bq : Bool) (h : Nat) (hP : PartAt bq h) : ReadQAt bq h := by
  intro l oa cap bb o gR w hR hs hm hz
  obtain ⟨N, hN⟩ : ∃ N, l.length = N := ⟨_, rfl⟩
  obtain ⟨L, hL⟩ : ∃ L, l.map Vl.c = L := ⟨_, rfl⟩
  have hLN : L.length = N := by rw [← hL, List.length_map, hN]
  obtain ⟨f, hf⟩ : ∃ f, pQ bq h = f := ⟨_, rfl⟩
  obtain ⟨Y, hY⟩ : ∃ Y, readQ f L = Y := ⟨_, rfl⟩
  rw [hN, hL, hf, hY]
  have hsm := hs.small
  rw [hN] at hsm
  have hN30 : N ≤ 1073741824 := by have := sz_len L; rw [← hL] at this; rw [← hLN, ← hL]; omega
  have hb := below_box w (.cells zero14 49)
  have h1 := Blk.new w 49 zero14
  have hs1 : w.heap.size ≤ (w.alloc (.cells zero14 49)).heap.size := by simp
  have HWD := Lib.hid (show ∀ wx, Below (w.alloc (.cells zero14 49)).heap.size (w.alloc (.cells zero14 49)) wx → ∀ i : Nat, i ≤ 4611686018427387904 → Calls Try.prog 125 #[.slice oa N cap, .int .i64 (i : Int)] wx fun e w' => e = .returned (.string ⟨(wordAt L i).toArray⟩) ∧ Below wx.heap.size wx w' from fun wx hx i hi => by
    have := word15_any h l oa cap bb o i wx ((hs.below hb).below hx) hi
    rw [hN, hL] at this
    exact this)
  have HPA := Lib.hid (show ∀ wx, Below (w.alloc (.cells zero14 49)).heap.size (w.alloc (.cells zero14 49)) wx → ∀ i : Nat, i ≤ 4611686018427387904 → Calls Try.prog 126 #[.pointer (some ⟨gR, 0, none⟩), .slice oa N cap, .int .i64 (i : Int)] wx fun e w' => partEnd wx.heap.size f (L[i]?) e w' ∧ Below wx.heap.size wx w' from fun wx hx i hi => by
    have h2 := (hR.below hb hR.lt)
    have := hP l oa cap bb o gR i wx (h2.below hx h2.lt) ((hs.below hb).below hx) hm hz hi
    rw [hN, hL, hf] at this
    exact this)
  have HNN := Lib.hid hLN
  have HY := Lib.hid hY
  obtain ⟨g, hg⟩ : ∃ g, w.heap.size = g := ⟨_, rfl⟩
  rw [hg] at h1 hb hs1
  have H := Lib.hid (And.intro h1 (And.intro hb hs1))
  have HG := Lib.hid hg
  clear h1 hb hs1 hR hs hm hz hN hL hY hP hf hLN
  simp only [zero14] at H HWD HPA
  go_enter Try.func112, Try.ntmps112
  go_upto_region 1 with fail
  clear hg
  generalize World.alloc w _ = wa at *
  have hb0 : Below wa.heap.size wa wa := Below.refl _ _
  have lcg := H.out.1.lt
  have HW0 := Lib.hid (show Calls Try.prog 125 #[.slice oa N cap, .int .i64 0] wa fun e w' => e = .returned (.string ⟨(wordAt L 0).toArray⟩) ∧ Below wa.heap.size wa w' from HWD.out wa hb0 0 (by omega))
  by_cases hW0 : wordAt L 0 = notS
  · have q0 : (wordAt L 0 == [110, 111, 116]) = true := by rw [hW0]; rfl
    go_wp2_with fail
    ((with_reducible refine (HW0.out).mono ?_); rintro e w' ⟨rfl, hbw⟩)
    obtain ⟨m0, rfl⟩ := grow_mk hbw
    clear hbw
    have HB := Lib.hid (grow_below m0)
    clear HW0 hb0
    generalize grow wa m0 = wb at *
    have hpa := HPA.out wb HB.out 1 (by omega)
    have HPC := Lib.hid (show Calls Try.prog 126 #[.pointer (some ⟨gR, 0, none⟩), .slice oa N cap, .int .i64 1] wb fun e w' => partEnd wb.heap.size f (L[1]?) e w' ∧ Below wb.heap.size wb w' from hpa)
    clear hpa
    go_wp2_with fail
    ((with_reducible refine (HPC.out).mono ?_); rintro e wc ⟨hp, hbc⟩)
    have HB2 := Lib.hid (HB.out.trans (hbc.mono HB.out.size))
    have hb3 := Lib.hid hbc
    clear hbc HPC
    cases hL1 : L[1]? with
    | none =>
      rw [hL1] at hp
      obtain rfl : e = barEnd := hp
      have hYn : Y = none := by rw [← HY.out, read_not hW0, hL1]
      simp only [barEnd]
      go_wp2_with fail
      refine ⟨rfl, ?_, ?_⟩
      · rw [hYn]
        rfl
      · rw [HG.out]
        exact H.out.2.1.trans (HB2.out.mono H.out.2.2)
    | some v =>
      rw [hL1] at hp
      cases ho : opensV v with
      | false =>
        rw [partEnd_not ho] at hp
        subst hp
        have hYn : Y = none := by
          rw [← HY.out, read_not hW0, hL1]
          simp only [ho]
          rfl
        simp only [barEnd]
        go_wp2_with fail
        refine ⟨rfl, ?_, ?_⟩
        · rw [hYn]
          rfl
        · rw [HG.out]
          exact H.out.2.1.trans (HB2.out.mono H.out.2.2)
      | true =>
        rw [partEnd_some ho] at hp
        obtain ⟨r, rfl, hq⟩ := hp
        obtain ⟨qk, qa, qn, qc, ⟨q1, q2, q3⟩, hr⟩ := hq.cells
        simp only [qcells] at hr
        subst hr
        have HQ := Lib.hid hq
        clear hq
        go_upto_region 3 with fail
        have hgb : g < wb.heap.size := Nat.lt_of_lt_of_le lcg HB.out.size
        have hbq := hb3.out.size
        have hx1 := below_box wc (.cells #[.int .i64 qk, .slice qa qn qc, .int .i64 q1, .int .i64 q2, .string ⟨q3.toArray⟩, .int .i64 0, .int .i64 0, .int .i64 0, .int .i64 0, .int .i64 0, .slice none 0 0, .string ⟨#[]⟩, .string ⟨#[]⟩, .bool false] 49)
        have hx2 := hx1.alloc (by simp) (.cells #[.int .i64 3, .slice (some ⟨wc.heap.size, 0, none⟩) 1 1, .int .i64 0, .int .i64 0, .string ⟨#[]⟩, .int .i64 0, .int .i64 0, .int .i64 0, .int .i64 0, .int .i64 0, .slice none 0 0, .string ⟨#[]⟩, .string ⟨#[]⟩, .bool false] 49)
        have hq5 := (qd_one HQ.out hbq (show I64 3 by unfold I64; decide)).below (below_box _ (.cells #[.int .i64 3, .slice (some ⟨wc.heap.size, 0, none⟩) 1 1, .int .i64 0, .int .i64 0, .string ⟨#[]⟩, .int .i64 0, .int .i64 0, .int .i64 0, .int .i64 0, .int .i64 0, .slice none 0 0, .string ⟨#[]⟩, .string ⟨#[]⟩, .bool false] 49))
        have hs5 : (wc.alloc (.cells #[.int .i64 qk, .slice qa qn qc, .int .i64 q1, .int .i64 q2, .string ⟨q3.toArray⟩, .int .i64 0, .int .i64 0, .int .i64 0, .int .i64 0, .int .i64 0, .slice none 0 0, .string ⟨#[]⟩, .string ⟨#[]⟩, .bool false] 49)).heap.size = wc.heap.size + 1 := by simp
        have h5 := Blk.new (wc.alloc (.cells #[.int .i64 qk, .slice qa qn qc, .int .i64 q1, .int .i64 q2, .string ⟨q3.toArray⟩, .int .i64 0, .int .i64 0, .int .i64 0, .int .i64 0, .int .i64 0, .slice none 0 0, .string ⟨#[]⟩, .string ⟨#[]⟩, .bool false] 49)) 49 #[.int .i64 3, .slice (some ⟨wc.heap.size, 0, none⟩) 1 1, .int .i64 0, .int .i64 0, .string ⟨#[]⟩, .int .i64 0, .int .i64 0, .int .i64 0, .int .i64 0, .int .i64 0, .slice none 0 0, .string ⟨#[]⟩, .string ⟨#[]⟩, .bool false]
        rw [hs5] at h5
        have HB5 := Lib.hid (HB2.out.trans (hx2.mono HB2.out.size))
        have HQ5 := Lib.hid hq5
        have hgc : g < wc.heap.size := by omega
        clear HQ hx1 hx2 hq5 hs5 HB2
        simp only [qcells, zeroQ] at HQ5
        generalize wc.heap.size = gr at *
        generalize World.alloc (World.alloc wc _) _ = wd at *
        have cx0 : wd.cell? ⟨gr + 1, 0, none⟩ = some (.int .i64 3) := (h5).cell 0
        have fcx0 := (h5).frozen 0
        have cx1 : wd.cell? ⟨gr + 1, 1, none⟩ = some (.slice (some ⟨gr, 0, none⟩) 1 1) := (h5).cell 1
        have fcx1 := (h5).frozen 1
        have cx2 : wd.cell? ⟨gr + 1, 2, none⟩ = some (.int .i64 0) := (h5).cell 2
        have fcx2 := (h5).frozen 2
        have cx3 : wd.cell? ⟨gr + 1, 3, none⟩ = some (.int .i64 0) := (h5).cell 3
        have fcx3 := (h5).frozen 3
        have cx4 : wd.cell? ⟨gr + 1, 4, none⟩ = some (.string ⟨#[]⟩) := (h5).cell 4
        have fcx4 := (h5).frozen 4
        have cx5 : wd.cell? ⟨gr + 1, 5, none⟩ = some (.int .i64 0) := (h5).cell 5
        have fcx5 := (h5).frozen 5
        have cx6 : wd.cell? ⟨gr + 1, 6, none⟩ = some (.int .i64 0) := (h5).cell 6
        have fcx6 := (h5).frozen 6
        have cx7 : wd.cell? ⟨gr + 1, 7, none⟩ = some (.int .i64 0) := (h5).cell 7
        have fcx7 := (h5).frozen 7
        have cx8 : wd.cell? ⟨gr + 1, 8, none⟩ = some (.int .i64 0) := (h5).cell 8
        have fcx8 := (h5).frozen 8
        have cx9 : wd.cell? ⟨gr + 1, 9, none⟩ = some (.int .i64 0) := (h5).cell 9
        have fcx9 := (h5).frozen 9
        have cx10 : wd.cell? ⟨gr + 1, 10, none⟩ = some (.slice none 0 0) := (h5).cell 10
        have fcx10 := (h5).frozen 10
        have cx11 : wd.cell? ⟨gr + 1, 11, none⟩ = some (.string ⟨#[]⟩) := (h5).cell 11
        have fcx11 := (h5).frozen 11
        have cx12 : wd.cell? ⟨gr + 1, 12, none⟩ = some (.string ⟨#[]⟩) := (h5).cell 12
        have fcx12 := (h5).frozen 12
        have cx13 : wd.cell? ⟨gr + 1, 13, none⟩ = some (.bool false) := (h5).cell 13
        have fcx13 := (h5).frozen 13
        have lcx := (h5).lt
        have h1 := H.out.1.below HB5.out lcg
        have ca0 : wd.cell? ⟨g, 0, none⟩ = some (.int .i64 0) := (h1).cell 0
        have fca0 := (h1).frozen 0
        have ca1 : wd.cell? ⟨g, 1, none⟩ = some (.slice none 0 0) := (h1).cell 1
        have fca1 := (h1).frozen 1
        have ca2 : wd.cell? ⟨g, 2, none⟩ = some (.int .i64 0) := (h1).cell 2
        have fca2 := (h1).frozen 2
        have ca3 : wd.cell? ⟨g, 3, none⟩ = some (.int .i64 0) := (h1).cell 3
        have fca3 := (h1).frozen 3
        have ca4 : wd.cell? ⟨g, 4, none⟩ = some (.string ⟨#[]⟩) := (h1).cell 4
        have fca4 := (h1).frozen 4
        have ca5 : wd.cell? ⟨g, 5, none⟩ = some (.int .i64 0) := (h1).cell 5
        have fca5 := (h1).frozen 5
        have ca6 : wd.cell? ⟨g, 6, none⟩ = some (.int .i64 0) := (h1).cell 6
        have fca6 := (h1).frozen 6
        have ca7 : wd.cell? ⟨g, 7, none⟩ = some (.int .i64 0) := (h1).cell 7
        have fca7 := (h1).frozen 7
        have ca8 : wd.cell? ⟨g, 8, none⟩ = some (.int .i64 0) := (h1).cell 8
        have fca8 := (h1).frozen 8
        have ca9 : wd.cell? ⟨g, 9, none⟩ = some (.int .i64 0) := (h1).cell 9
        have fca9 := (h1).frozen 9
        have ca10 : wd.cell? ⟨g, 10, none⟩ = some (.slice none 0 0) := (h1).cell 10
        have fca10 := (h1).frozen 10
        have ca11 : wd.cell? ⟨g, 11, none⟩ = some (.string ⟨#[]⟩) := (h1).cell 11
        have fca11 := (h1).frozen 11
        have ca12 : wd.cell? ⟨g, 12, none⟩ = some (.string ⟨#[]⟩) := (h1).cell 12
        have fca12 := (h1).frozen 12
        have ca13 : wd.cell? ⟨g, 13, none⟩ = some (.bool false) := (h1).cell 13
        have fca13 := (h1).frozen 13
        have lca := (h1).lt
        clear h1 h5
        by_cases hN2 : N ≤ 2
        · have g2 : decide ((2 : Int) < (N : Int)) = false := by simp; omega
          have g2n : decide (2 < N) = false := by simp; omega
          have hYs : Y = some (.mk 3 [f v] zeroQ) := by
            rw [← HY.out, read_not hW0, hL1]
            simp only [ho, HNN.out, hN2, and_self, if_true]
          subst hYs
          go_wp2_with fail
          have hz := blk_puts [.int .i64 3, .slice (some ⟨gr, 0, none⟩) 1 1, .int .i64 0, .int .i64 0, .string ⟨#[]⟩, .int .i64 0, .int .i64 0, .int .i64 0, .int .i64 0, .int .i64 0, .slice none 0 0, .string ⟨#[]⟩, .string ⟨#[]⟩, .bool false] zero14.toList (wd) 0 [] (H.out.1.below HB5.out H.out.1.lt) rfl rfl
          have hbz := (H.out.2.1.trans (HB5.out.mono H.out.2.2)).trans (below_put14 [.int .i64 3, .slice (some ⟨gr, 0, none⟩) 1 1, .int .i64 0, .int .i64 0, .string ⟨#[]⟩, .int .i64 0, .int .i64 0, .int .i64 0, .int .i64 0, .int .i64 0, .slice none 0 0, .string ⟨#[]⟩, .string ⟨#[]⟩, .bool false] (wd) g 0)
          have hgz := grownBy_puts [.int .i64 3, .slice (some ⟨gr, 0, none⟩) 1 1, .int .i64 0, .int .i64 0, .string ⟨#[]⟩, .int .i64 0, .int .i64 0, .int .i64 0, .int .i64 0, .int .i64 0, .slice none 0 0, .string ⟨#[]⟩, .string ⟨#[]⟩, .bool false] (wd) g 0
          simp only [puts, Nat.zero_add, Nat.reduceAdd] at hz hbz hgz
          refine bodyPost_ret (v := .agg #[.int .i64 3, .slice (some ⟨gr, 0, none⟩) 1 1, .int .i64 0, .int .i64 0, .string ⟨#[]⟩, .int .i64 0, .int .i64 0, .int .i64 0, .int .i64 0, .int .i64 0, .slice none 0 0, .string ⟨#[]⟩, .string ⟨#[]⟩, .bool false]) ?_ rfl ?_
          · refine ret_cd Try.results112 ?_ hz rfl
            rfl
          · refine ⟨?_, by rw [HG.out]; exact hbz⟩
            refine ⟨_, rfl, ?_⟩
            exact (HQ5.out.grown hgz (fun k e _ => by have := Option.some.inj e; omega)).anti fun b hb => Or.inl (by have := HG.out; omega)
        · have g2 : decide ((2 : Int) < (N : Int)) = true := by simp; omega
          have g2n : decide (2 < N) = true := by simp; omega
          have hYn : Y = none := by
            rw [← HY.out, read_not hW0, hL1]
            simp only [HNN.out, hN2, and_false, if_false]
          go_wp2_with fail
          refine ⟨rfl, ?_, ?_⟩
          · rw [hYn]
            rfl
          · rw [HG.out]
            exact H.out.2.1.trans (HB5.out.mono H.out.2.2)
  · have q0 : (wordAt L 0 == [110, 111, 116]) = false := beq_eq_false_iff_ne.2 hW0
    go_wp2_with fail
    ((with_reducible refine (HW0.out).mono ?_); rintro e w' ⟨rfl, hbw⟩)
    obtain ⟨m0, rfl⟩ := grow_mk hbw
    clear hbw
    have HB := Lib.hid (grow_below m0)
    clear HW0 hb0
    generalize grow wa m0 = wb at *
    have hpa := HPA.out wb HB.out 0 (by omega)
    have HPC := Lib.hid (show Calls Try.prog 126 #[.pointer (some ⟨gR, 0, none⟩), .slice oa N cap, .int .i64 0] wb fun e w' => partEnd wb.heap.size f (L[0]?) e w' ∧ Below wb.heap.size wb w' from hpa)
    clear hpa
    go_wp2_with fail
    ((with_reducible refine (HPC.out).mono ?_); rintro e wc ⟨hp, hbc⟩)
    have HB2 := Lib.hid (HB.out.trans (hbc.mono HB.out.size))
    have hb3 := Lib.hid hbc
    clear hbc HPC
    cases hL1 : L[0]? with
    | none =>
      rw [hL1] at hp
      obtain rfl : e = barEnd := hp
      have hYn : Y = none := by rw [← HY.out, read_nil hL1]
      simp only [barEnd]
      go_wp2_with fail
      refine ⟨rfl, ?_, ?_⟩
      · rw [hYn]
        rfl
      · rw [HG.out]
        exact H.out.2.1.trans (HB2.out.mono H.out.2.2)
    | some v =>
      rw [hL1] at hp
      cases ho : opensV v with
      | false =>
        rw [partEnd_not ho] at hp
        subst hp
        have hYn : Y = none := by rw [← HY.out, read_shut hW0 hL1 ho]
        simp only [barEnd]
        go_wp2_with fail
        refine ⟨rfl, ?_, ?_⟩
        · rw [hYn]
          rfl
        · rw [HG.out]
          exact H.out.2.1.trans (HB2.out.mono H.out.2.2)
      | true =>
        rw [partEnd_some ho] at hp
        obtain ⟨r, rfl, hq⟩ := hp
        obtain ⟨qk, qa, qn, qc, ⟨q1, q2, q3⟩, hr⟩ := hq.cells
        simp only [qcells] at hr
        subst hr
        have HQ := Lib.hid hq
        clear hq
        go_upto_region 7 with fail
        have hgb : g < wb.heap.size := Nat.lt_of_lt_of_le lcg HB.out.size
        have hbq := hb3.out.size
        have hx1 := below_box wc (.cells #[.int .i64 qk, .slice qa qn qc, .int .i64 q1, .int .i64 q2, .string ⟨q3.toArray⟩, .int .i64 0, .int .i64 0, .int .i64 0, .int .i64 0, .int .i64 0, .slice none 0 0, .string ⟨#[]⟩, .string ⟨#[]⟩, .bool false] 49)
        have hq5 := HQ.out.below hx1
        have h5 := Blk.new wc 49 #[.int .i64 qk, .slice qa qn qc, .int .i64 q1, .int .i64 q2, .string ⟨q3.toArray⟩, .int .i64 0, .int .i64 0, .int .i64 0, .int .i64 0, .int .i64 0, .slice none 0 0, .string ⟨#[]⟩, .string ⟨#[]⟩, .bool false]
        have HB5 := Lib.hid (HB2.out.trans (hx1.mono HB2.out.size))
        have HQ5 := Lib.hid hq5
        have hgc : g < wc.heap.size := by omega
        clear HQ hx1 hq5 HB2
        generalize wc.heap.size = g6 at *
        generalize World.alloc wc _ = wd at *
        have cx0 : wd.cell? ⟨g6, 0, none⟩ = some (.int .i64 qk) := (h5).cell 0
        have fcx0 := (h5).frozen 0
        have cx1 : wd.cell? ⟨g6, 1, none⟩ = some (.slice qa qn qc) := (h5).cell 1
        have fcx1 := (h5).frozen 1
        have cx2 : wd.cell? ⟨g6, 2, none⟩ = some (.int .i64 q1) := (h5).cell 2
        have fcx2 := (h5).frozen 2
        have cx3 : wd.cell? ⟨g6, 3, none⟩ = some (.int .i64 q2) := (h5).cell 3
        have fcx3 := (h5).frozen 3
        have cx4 : wd.cell? ⟨g6, 4, none⟩ = some (.string ⟨q3.toArray⟩) := (h5).cell 4
        have fcx4 := (h5).frozen 4
        have cx5 : wd.cell? ⟨g6, 5, none⟩ = some (.int .i64 0) := (h5).cell 5
        have fcx5 := (h5).frozen 5
        have cx6 : wd.cell? ⟨g6, 6, none⟩ = some (.int .i64 0) := (h5).cell 6
        have fcx6 := (h5).frozen 6
        have cx7 : wd.cell? ⟨g6, 7, none⟩ = some (.int .i64 0) := (h5).cell 7
        have fcx7 := (h5).frozen 7
        have cx8 : wd.cell? ⟨g6, 8, none⟩ = some (.int .i64 0) := (h5).cell 8
        have fcx8 := (h5).frozen 8
        have cx9 : wd.cell? ⟨g6, 9, none⟩ = some (.int .i64 0) := (h5).cell 9
        have fcx9 := (h5).frozen 9
        have cx10 : wd.cell? ⟨g6, 10, none⟩ = some (.slice none 0 0) := (h5).cell 10
        have fcx10 := (h5).frozen 10
        have cx11 : wd.cell? ⟨g6, 11, none⟩ = some (.string ⟨#[]⟩) := (h5).cell 11
        have fcx11 := (h5).frozen 11
        have cx12 : wd.cell? ⟨g6, 12, none⟩ = some (.string ⟨#[]⟩) := (h5).cell 12
        have fcx12 := (h5).frozen 12
        have cx13 : wd.cell? ⟨g6, 13, none⟩ = some (.bool false) := (h5).cell 13
        have fcx13 := (h5).frozen 13
        have lcx := (h5).lt
        have h1 := H.out.1.below HB5.out lcg
        have ca0 : wd.cell? ⟨g, 0, none⟩ = some (.int .i64 0) := (h1).cell 0
        have fca0 := (h1).frozen 0
        have ca1 : wd.cell? ⟨g, 1, none⟩ = some (.slice none 0 0) := (h1).cell 1
        have fca1 := (h1).frozen 1
        have ca2 : wd.cell? ⟨g, 2, none⟩ = some (.int .i64 0) := (h1).cell 2
        have fca2 := (h1).frozen 2
        have ca3 : wd.cell? ⟨g, 3, none⟩ = some (.int .i64 0) := (h1).cell 3
        have fca3 := (h1).frozen 3
        have ca4 : wd.cell? ⟨g, 4, none⟩ = some (.string ⟨#[]⟩) := (h1).cell 4
        have fca4 := (h1).frozen 4
        have ca5 : wd.cell? ⟨g, 5, none⟩ = some (.int .i64 0) := (h1).cell 5
        have fca5 := (h1).frozen 5
        have ca6 : wd.cell? ⟨g, 6, none⟩ = some (.int .i64 0) := (h1).cell 6
        have fca6 := (h1).frozen 6
        have ca7 : wd.cell? ⟨g, 7, none⟩ = some (.int .i64 0) := (h1).cell 7
        have fca7 := (h1).frozen 7
        have ca8 : wd.cell? ⟨g, 8, none⟩ = some (.int .i64 0) := (h1).cell 8
        have fca8 := (h1).frozen 8
        have ca9 : wd.cell? ⟨g, 9, none⟩ = some (.int .i64 0) := (h1).cell 9
        have fca9 := (h1).frozen 9
        have ca10 : wd.cell? ⟨g, 10, none⟩ = some (.slice none 0 0) := (h1).cell 10
        have fca10 := (h1).frozen 10
        have ca11 : wd.cell? ⟨g, 11, none⟩ = some (.string ⟨#[]⟩) := (h1).cell 11
        have fca11 := (h1).frozen 11
        have ca12 : wd.cell? ⟨g, 12, none⟩ = some (.string ⟨#[]⟩) := (h1).cell 12
        have fca12 := (h1).frozen 12
        have ca13 : wd.cell? ⟨g, 13, none⟩ = some (.bool false) := (h1).cell 13
        have fca13 := (h1).frozen 13
        have lca := (h1).lt
        have H5 := Lib.hid h5
        clear h1 h5
        by_cases hN1 : N = 1
        · have g1 : ((N : Int) == 1) = true := by rw [hN1]; rfl
          have g1n : (N == 1) = true := by rw [hN1]; rfl
          have hYs : Y = some (f v) := by rw [← HY.out, read_lone hW0 hL1 ho (by rw [HNN.out, hN1])]
          subst hYs
          go_wp2_with fail
          have hz := blk_puts [.int .i64 qk, .slice qa qn qc, .int .i64 q1, .int .i64 q2, .string ⟨q3.toArray⟩, .int .i64 0, .int .i64 0, .int .i64 0, .int .i64 0, .int .i64 0, .slice none 0 0, .string ⟨#[]⟩, .string ⟨#[]⟩, .bool false] zero14.toList (wd) 0 [] (H.out.1.below HB5.out H.out.1.lt) rfl rfl
          have hbz := (H.out.2.1.trans (HB5.out.mono H.out.2.2)).trans (below_put14 [.int .i64 qk, .slice qa qn qc, .int .i64 q1, .int .i64 q2, .string ⟨q3.toArray⟩, .int .i64 0, .int .i64 0, .int .i64 0, .int .i64 0, .int .i64 0, .slice none 0 0, .string ⟨#[]⟩, .string ⟨#[]⟩, .bool false] (wd) g 0)
          have hgz := grownBy_puts [.int .i64 qk, .slice qa qn qc, .int .i64 q1, .int .i64 q2, .string ⟨q3.toArray⟩, .int .i64 0, .int .i64 0, .int .i64 0, .int .i64 0, .int .i64 0, .slice none 0 0, .string ⟨#[]⟩, .string ⟨#[]⟩, .bool false] (wd) g 0
          simp only [puts, Nat.zero_add, Nat.reduceAdd] at hz hbz hgz
          refine bodyPost_ret (v := .agg #[.int .i64 qk, .slice qa qn qc, .int .i64 q1, .int .i64 q2, .string ⟨q3.toArray⟩, .int .i64 0, .int .i64 0, .int .i64 0, .int .i64 0, .int .i64 0, .slice none 0 0, .string ⟨#[]⟩, .string ⟨#[]⟩, .bool false]) ?_ rfl ?_
          · refine ret_cd Try.results112 ?_ hz rfl
            rfl
          · refine ⟨?_, by rw [HG.out]; exact hbz⟩
            refine ⟨_, rfl, ?_⟩
            exact (HQ5.out.grown hgz (fun k e _ => by have := Option.some.inj e; omega)).anti fun b hb => Or.inl (by have := HG.out; omega)
        · have g1 : ((N : Int) == 1) = false := by rw [beq_eq_false_iff_ne]; omega
          have g1n : (N == 1) = false := by rw [beq_eq_false_iff_ne]; omega
          have hY2 := HY.out
          rw [read_chain hW0 hL1 ho (by rw [HNN.out]; exact hN1)] at hY2
          have HY2 := Lib.hid hY2
          have HW1 := Lib.hid (show Calls Try.prog 125 #[.slice oa N cap, .int .i64 1] wd fun e w' => e = .returned (.string ⟨(wordAt L 1).toArray⟩) ∧ Below wd.heap.size wd w' from HWD.out wd HB5.out 1 (by omega))
          clear hY2 HY
          obtain ⟨W1, hW1⟩ : ∃ W1, wordAt L 1 = W1 := ⟨_, rfl⟩
          rw [hW1] at HW1 HY2
          clear hW1
          go_upto_region 9 with fail
          go_wp2_with fail
          ((with_reducible refine (HW1.out).mono ?_); rintro e w' ⟨rfl, hbw⟩)
          obtain ⟨m1, rfl⟩ := grow_mk hbw
          clear hbw
          go_upto_region 11 with fail
          obtain ⟨x, hxq, hjn⟩ := Jn.first (k := 1) (HB5.out.trans ((grow_below m1).mono HB5.out.size)) (HQ5.out.below (grow_below m1)) HB.out.size
          simp only [qcells, zeroQ] at hjn
          have HJ := Lib.hid hjn
          have hgo : g < (grow wd m1).heap.size := Nat.lt_of_lt_of_le lca (grow_size m1)
          clear hjn H5 HQ5 HW1 cx0 fcx0 cx1 fcx1 cx2 fcx2 cx3 fcx3 cx4 fcx4 cx5 fcx5 cx6 fcx6 cx7 fcx7 cx8 fcx8 cx9 fcx9 cx10 fcx10 cx11 fcx11 cx12 fcx12 cx13 fcx13 lcx ca0 fca0 ca1 fca1 ca2 fca2 ca3 fca3 ca4 fca4 ca5 fca5 ca6 fca6 ca7 fca7 ca8 fca8 ca9 fca9 ca10 fca10 ca11 fca11 ca12 fca12 ca13 fca13
          generalize (grow wd m1).heap.size = gr at *
          generalize World.alloc (World.alloc (grow wd m1) _) _ = wf at *
          have HBF := Lib.hid HJ.out.bl
          by_cases hj : W1 = andS ∨ W1 = orS
          · go_upto_block 0 with fail
            have h8 := HJ.out.box
            simp only [qcells, zeroQ] at h8
            have cx0 : wf.cell? ⟨gr + 1, 0, none⟩ = some (.int .i64 1) := (h8).cell 0
            have fcx0 := (h8).frozen 0
            have cx1 : wf.cell? ⟨gr + 1, 1, none⟩ = some (.slice (some ⟨gr, 0, none⟩) 1 1) := (h8).cell 1
            have fcx1 := (h8).frozen 1
            have cx2 : wf.cell? ⟨gr + 1, 2, none⟩ = some (.int .i64 0) := (h8).cell 2
            have fcx2 := (h8).frozen 2
            have cx3 : wf.cell? ⟨gr + 1, 3, none⟩ = some (.int .i64 0) := (h8).cell 3
            have fcx3 := (h8).frozen 3
            have cx4 : wf.cell? ⟨gr + 1, 4, none⟩ = some (.string ⟨#[]⟩) := (h8).cell 4
            have fcx4 := (h8).frozen 4
            have cx5 : wf.cell? ⟨gr + 1, 5, none⟩ = some (.int .i64 0) := (h8).cell 5
            have fcx5 := (h8).frozen 5
            have cx6 : wf.cell? ⟨gr + 1, 6, none⟩ = some (.int .i64 0) := (h8).cell 6
            have fcx6 := (h8).frozen 6
            have cx7 : wf.cell? ⟨gr + 1, 7, none⟩ = some (.int .i64 0) := (h8).cell 7
            have fcx7 := (h8).frozen 7
            have cx8 : wf.cell? ⟨gr + 1, 8, none⟩ = some (.int .i64 0) := (h8).cell 8
            have fcx8 := (h8).frozen 8
            have cx9 : wf.cell? ⟨gr + 1, 9, none⟩ = some (.int .i64 0) := (h8).cell 9
            have fcx9 := (h8).frozen 9
            have cx10 : wf.cell? ⟨gr + 1, 10, none⟩ = some (.slice none 0 0) := (h8).cell 10
            have fcx10 := (h8).frozen 10
            have cx11 : wf.cell? ⟨gr + 1, 11, none⟩ = some (.string ⟨#[]⟩) := (h8).cell 11
            have fcx11 := (h8).frozen 11
            have cx12 : wf.cell? ⟨gr + 1, 12, none⟩ = some (.string ⟨#[]⟩) := (h8).cell 12
            have fcx12 := (h8).frozen 12
            have cx13 : wf.cell? ⟨gr + 1, 13, none⟩ = some (.bool false) := (h8).cell 13
            have fcx13 := (h8).frozen 13
            have lcx := (h8).lt
            clear h8
            go_cut [] from 36 to 42 (fun wx => ∃ k : Int, I64 k ∧ Hid (Jn wa.heap.size wa wx (gr + 1) k (.slice (some ⟨gr, 0, none⟩) 1 1) [x]) ∧ Hid (Y = chainQ f W1 k [f v] (L.drop 1)))
            case first =>
              rcases hj with rfl | rfl
              · have q1 : (andS == [97, 110, 100]) = true := rfl
                have hY3 : Y = chainQ f andS 1 [f v] (L.drop 1) := by
                  rw [← HY2.out, if_pos rfl]
                go_wp2_with fail
                go_meet
                exact ⟨1, by unfold I64; decide, HJ, Lib.hid hY3⟩
              · have q1 : (orS == [97, 110, 100]) = false := rfl
                have q2 : (orS == [111, 114]) = true := rfl
                have hY3 : Y = chainQ f orS 2 [f v] (L.drop 1) := by
                  rw [← HY2.out, if_neg (by decide), if_pos rfl]
                go_wp2_with fail
                go_meet
                exact ⟨2, by unfold I64; decide, Lib.hid (HJ.out.kind 2), Lib.hid hY3⟩
            case rest =>
              obtain ⟨k, hk, HJ2, HY3⟩ := hcut
              clear cx0 fcx0 cx1 fcx1 cx2 fcx2 cx3 fcx3 cx4 fcx4 cx5 fcx5 cx6 fcx6 cx7 fcx7 cx8 fcx8 cx9 fcx9 cx10 fcx10 cx11 fcx11 cx12 fcx12 cx13 fcx13 lcx HJ HY2 HBF
              go_wp2_with fail
              go_loopg [9] (N + 2) (fun q s wr => ∃ (i : Nat) (D : List Cd) (vo : Value), s = .int .i64 i ∧ Hid (Jn wa.heap.size wa wr (gr + 1) k vo D) ∧ Hid (Y = chainQ f W1 k (D.map Cd.q) (L.drop i)) ∧ D.length ≤ i ∧ i ≤ N + 1 ∧ N + 2 - i ≤ q)
              case atStart => exact ⟨1, [x], _, rfl, HJ2, Lib.hid (by rw [HY3.out, ← hxq]; rfl), Nat.le_refl _, by omega, by omega⟩
              case round =>
                clear HJ2 HY3
                obtain ⟨i, D, vo, rfl, hJ, hYd, hDi, hiN, hq⟩ := hrel
                by_cases hi : i < N
                · have gi : decide ((i : Int) < (N : Int)) = true := by simpa using hi
                  have gin : decide (i < N) = true := by simpa using hi
                  have ij0 : (0 : Int) ≤ (i : Int) := Int.natCast_nonneg _
                  have hYs := hYd.out
                  rw [chain_step (by rw [HNN.out]; exact hi)] at hYs
                  have HYS := Lib.hid hYs
                  clear hYs hYd
                  have HWi := Lib.hid (HWD.out wr hJ.out.bl i (by omega))
                  obtain ⟨Wi, hWi⟩ : ∃ Wi, wordAt L i = Wi := ⟨_, rfl⟩
                  rw [hWi] at HWi HYS
                  clear hWi
                  by_cases hw : Wi = W1
                  · subst hw
                    have hYs := HYS.out
                    rw [if_pos rfl] at hYs
                    go_wp2_with fail
                    ((with_reducible refine (HWi.out).mono ?_); rintro e w' ⟨rfl, hbw⟩)
                    obtain ⟨m, rfl⟩ := grow_mk hbw
                    clear hbw
                    have HJq := Lib.hid (hJ.out.below (Nat.le_refl _) (grow_below m))
                    clear hJ HWi HYS
                    generalize grow wr m = wq at *
                    go_upto_region 21 with fail
                    have h8 := HJq.out.box
                    simp only [qcells, zeroQ] at h8
                    have c1 : wq.cell? ⟨gr + 1, 1, none⟩ = some vo := h8.cell 1
                    have fc1 := h8.frozen 1
                    have lc1 := h8.lt
                    have iwr : IntKind.i64.wrap ((i : Int) + 1) = (i : Int) + 1 := by rw [IntKind.wrap_i64]; omega
                    have hcast : ((i + 1 : Nat) : Int) = (i : Int) + 1 := by omega
                    have HPI := Lib.hid (show ∀ wx, Below wq.heap.size wq wx → Calls Try.prog 126 #[.pointer (some ⟨gR, 0, none⟩), .slice oa N cap, .int .i64 ((i : Int) + 1)] wx fun e w' => partEnd wx.heap.size f (L[i + 1]?) e w' ∧ Below wx.heap.size wx w' from fun wx hx => by
                      have := HPA.out wx (HJq.out.bl.trans (hx.mono HJq.out.bl.size)) (i + 1) (by omega)
                      rw [hcast] at this
                      exact this)
                    have hpn := open_or (L[i + 1]?)
                    clear h8
                    rcases hpn with hpn | ⟨v2, hL2, ho2⟩
                    · have hYn : Y = none := hYs.trans (match_shut hpn)
                      clear hYs
                      refine wp_region_held_drew (S := (fun w' => w'.cell? ⟨gr + 1, 1, none⟩ = some vo)) (by kernel_rfl) (by (try dsimp only); go_keep) (fun hHeld => ?_)
                      refine wpAnyH_take (i := 0) (v := ?hvv0_1) rfl (by kernel_rfl) (by kernel_rfl) (by kernel_rfl) (fun _ _ _ h => h) (Or.inl ⟨by rfl, ?hhy0_1⟩) (by assumption) ?_
                      case hhy0_1 => (intro w hSw; (try dsimp only at hSw); go_simp; try with_reducible rfl)
                      change wpAnyH _ _ _ _ _ _ _ (Act.put _ (some 57) _) _
                      try simp only [Act.put, List.setIfInBounds_toArray, List.set_cons_zero, List.set_cons_succ]
                      refine wpAnyH_take (i := 1) (v := ?hvv1_2) rfl (by kernel_rfl) (by kernel_rfl) (by kernel_rfl) (fun _ _ _ h => h) (Or.inl ⟨by rfl, ?hhy1_2⟩) (by assumption) ?_
                      case hhy1_2 => (intro w hSw; (try dsimp only at hSw); go_simp; try with_reducible rfl)
                      change wpAnyH _ _ _ _ _ _ _ (Act.put _ (some 58) _) _
                      try simp only [Act.put, List.setIfInBounds_toArray, List.set_cons_zero, List.set_cons_succ]
                      refine wpAnyH_take (i := 2) (v := ?hvv2_3) rfl (by kernel_rfl) (by kernel_rfl) (by kernel_rfl) (fun _ _ _ h => h) (Or.inl ⟨by rfl, ?hhy2_3⟩) (by assumption) ?_
                      case hhy2_3 => (intro w hSw; (try dsimp only at hSw); go_simp; try with_reducible rfl)
                      change wpAnyH _ _ _ _ _ _ _ (Act.put _ (some 59) _) _
                      try simp only [Act.put, List.setIfInBounds_toArray, List.set_cons_zero, List.set_cons_succ]
                      refine wpAnyH_take (i := 3) (v := ?hvv3_4) rfl (by kernel_rfl) (by kernel_rfl) (by kernel_rfl) (fun _ _ _ h => h) (Or.inl ⟨by rfl, ?hhy3_4⟩) (by assumption) ?_
                      case hhy3_4 => (intro w hSw; (try dsimp only at hSw); go_simp; try with_reducible rfl)
                      change wpAnyH _ _ _ _ _ _ _ (Act.put _ (some 60) _) _
                      try simp only [Act.put, List.setIfInBounds_toArray, List.set_cons_zero, List.set_cons_succ]
                      refine wpAnyH_take (i := 4) (v := ?hvv4_5) rfl (by kernel_rfl) (by kernel_rfl) (by kernel_rfl) (fun _ _ _ h => h) (Or.inl ⟨by rfl, ?hhy4_5⟩) (by assumption) ?_
                      case hhy4_5 => (intro w hSw; (try dsimp only at hSw); go_simp; try with_reducible rfl)
                      change wpAnyH _ _ _ _ _ _ _ (Act.put _ (some 61) _) _
                      try simp only [Act.put, List.setIfInBounds_toArray, List.set_cons_zero, List.set_cons_succ]
                      refine wpAnyH_take (i := 5) (v := ?hvv5_6) rfl (by kernel_rfl) (by kernel_rfl) (by kernel_rfl) (fun _ _ _ h => h) (Or.inl ⟨by rfl, ?hhy5_6⟩) (by assumption) ?_
                      case hhy5_6 => (intro w hSw; (try dsimp only at hSw); go_simp; try with_reducible rfl)
                      change wpAnyH _ _ _ _ _ _ _ (Act.put _ (some 62) _) _
                      try simp only [Act.put, List.setIfInBounds_toArray, List.set_cons_zero, List.set_cons_succ]
                      refine wpAnyH_ready (rs := [6]) (by kernel_rfl) (by simp) ?_
                      refine AllReadyH.cons rfl (fun K hK => ?_) AllReadyH.nil
                      go_simp
                      ((with_reducible refine (HPI.out _ (Below.drew (Below.refl _ _))).mono ?_); rintro e w' ⟨hp, hbw⟩)
                      obtain rfl := partEnd_shut hpn hp
                      have HBZ := Lib.hid (HJq.out.bl.trans ((show Below wq.heap.size wq w' from (Below.drew (Below.refl wq.heap.size wq)).trans hbw).mono HJq.out.bl.size))
                      simp only [barEnd]
                      go_wp2_with fail
                      refine ⟨rfl, ?_, ?_⟩
                      · rw [hYn]
                        rfl
                      · rw [HG.out]
                        exact H.out.2.1.trans (HBZ.out.mono H.out.2.2)
                    · rw [hL2] at hYs
                      simp only [ho2, if_true] at hYs
                      have HYS := Lib.hid hYs
                      clear hYs
                      refine wp_region_loose 8 [Loose.fw 6 63 (isQd (· < wq.heap.size) (f v2)) (isQd_stays _ _), Loose.rw 7 64 49 1 wq.heap.size (isQc (· < wq.heap.size) (f v2)) (isQc_stays _ _)] (by kernel_rfl) rfl (by kernel_rfl) (by kernel_rfl) (by kernel_rfl) (by kernel_rfl) ?_
                      simp only [headL, hushL, List.find?, Loose.claim_i, Loose.cells_i, Loose.rowL_i, Loose.claim_hush, Loose.cells_hush, Loose.rowL_hush, Loose.val_i, Loose.rowS_i, Loose.val_hush, Loose.rowS_hush, Loose.fw_i, Loose.fw_hush, Loose.rw_i, Loose.rw_hush, Nat.reduceBEq, Nat.reduceAdd]
                      repeat (go_big_quiet_step (fail))
                      refine wpQuiet_nil ⟨fun V m2 => ?_, fun V m2 => ?_⟩
                      · simp only [obs_cons, obs_nil, List.getElem?_cons_zero, List.getElem?_cons_succ, fill_nil, fill_claim, fill_cells, fill_rowL, Loose.claim_i, Loose.cells_i, Loose.rowL_i, Act.put, List.setIfInBounds_toArray, List.set_cons_zero, List.set_cons_succ, fill_val, fill_rowS, Loose.val_i, Loose.rowS_i, fill_fw, Loose.fw_i, fill_rw, Loose.rw_i]
                        refine ⟨fun _ => ?_, fun hw => ?_, trivial⟩
                        · go_wp2_with fail
                          ((with_reducible refine (HPI.out _ (grow_below m2)).mono ?_); rintro e w2 ⟨hp, hbw⟩)
                          rw [hL2, partEnd_some ho2] at hp
                          obtain ⟨r2, rfl, hq2⟩ := hp
                          have HQ2 := Lib.hid hq2
                          clear hq2
                          go_wp2_with fail
                          exact post_fw rfl (HQ2.out.anti fun b hb => Or.inl (Nat.lt_of_lt_of_le hb (grow_size m2))) hbw
                        · obtain ⟨h6, _⟩ := hw
                          have hq2 : isQd (· < wq.heap.size) (f v2) (V 6) (grow wq m2) := h6 (by kernel_rfl)
                          obtain ⟨pk, pa, pn, pc, ⟨p1, p2, p3⟩, hv⟩ := hq2.cells
                          rw [hv] at hq2
                          simp only [qcells] at hv hq2
                          have HQ2 := Lib.hid hq2
                          rw [hv]
                          clear hv h6 hq2
                          go_wp2_with fail
                          exact post_rw rfl (grow_size m2) HQ2.out
                      · simp only [laws_nil, laws_claim, laws_cells, laws_rowL, laws_val, laws_rowS, laws_fw, laws_rw, dist_nil, dist_claim, dist_cells, dist_rowL, dist_val, dist_rowS, dist_fw, dist_rw, dist1_nil, dist1_claim, dist1_cells, dist1_rowL, dist1_val, dist1_fw, dist1_cells_rowL, dist1_rowL_cells, List.drop_succ_cons, List.drop_zero, and_true, fill_nil, fill_claim, fill_cells, fill_rowL, Loose.claim_i, Loose.cells_i, Loose.rowL_i, Act.put, List.setIfInBounds_toArray, List.set_cons_zero, List.set_cons_succ, fill_val, fill_rowS, Loose.val_i, Loose.rowS_i, fill_fw, Loose.fw_i, fill_rw, Loose.rw_i]
                        rintro ⟨_, gb, cs, hv7, hgb, hqc, hbk⟩ _
                        rw [hv7]
                        obtain ⟨pk, pa, pn, pc, ⟨p1, p2, p3⟩, hv⟩ := isQd.cells hqc
                        injection hv with hv
                        subst hv
                        have hq2 : isQd (· < wq.heap.size) (f v2) _ (grow wq m2) := hqc
                        simp only [qcells] at hq2 hbk
                        have HQ2 := Lib.hid hq2
                        have HJr := Lib.hid (HJq.out.below (Nat.le_refl _) (grow_below m2))
                        have HVL := Lib.hid (fun b (e : vo.ownBlock = some b) => (HJq.out.row.lt b e).2)
                        have hgz := grow_size m2
                        have c1z := ((grow_below m2).cell (p := ⟨gr + 1, 1, none⟩) lc1).trans c1
                        have fz1 := ((grow_below m2).frozen (p := ⟨gr + 1, 1, none⟩) lc1).trans fc1
                        have lz1 : gr + 1 < (grow wq m2).heap.size := Nat.lt_of_lt_of_le lc1 hgz
                        clear hv7 hqc hq2 HJq c1 fc1 HPI HWD HPA
                        generalize grow wq m2 = wz at *
                        have hbs := HJr.out.bl.size
                        have hDN : (D.length + 1) * 168 ≤ 140737488355328 := by omega
                        go_wp2_with (at_builtin; refine wpList_add elCond rfl _ _ rfl rfl HJr.out.row hbs hbk 1 rfl rfl (by simp [Value.oneCell']) hDN (by omega) ?_; intro gg cap3 w3 ho3 hg3 hat hvb; have H3 := Lib.hid (And.intro ho3 (And.intro hg3 hat)); have cz := (hg3.cell_far (a := ⟨gr + 1, 1, none⟩) lz1 (fun e => HJr.out.apart _ e.symm rfl)).trans c1z; have fz := (hg3.frozen_far (a := ⟨gr + 1, 1, none⟩) lz1 (fun e => HJr.out.apart _ e.symm rfl)).trans fz1; have lz := Nat.lt_of_lt_of_le lz1 hg3.size; clear ho3 hg3 hat hvb)
                        go_roundg (N + 2 - (i + 2))
                        case measure => omega
                        case rel =>
                          obtain ⟨x2, h2, hxv, hxq2, hxb, hxs⟩ := HQ2.out
                          have hcs : ccells x2 = [.int .i64 pk, .slice pa pn pc, .int .i64 p1, .int .i64 p2, .string ⟨p3.toArray⟩, .int .i64 0, .int .i64 0, .int .i64 0, .int .i64 0, .int .i64 0, .slice none 0 0, .string ⟨#[]⟩, .string ⟨#[]⟩, .bool false] := by
                            unfold cv at hxv
                            injection hxv with e
                            simpa using (congrArg Array.toList e).symm
                          obtain ⟨ho3, hg3, hat⟩ := H3.out
                          refine ⟨i + 2, D ++ [x2], _, by go_num, Lib.hid (HJr.out.add (Nat.le_refl _) lc1 hgz HVL.out hxb hxs ho3 hcs hg3 (hat.imp id fun e => by omega)), Lib.hid ?_, by simp; omega, by omega, Nat.le_refl _⟩
                          rw [HYS.out, List.map_append, List.map_cons, List.map_nil, hxq2]
                  · have qn : (Wi == W1) = false := beq_eq_false_iff_ne.2 hw
                    have hYn : Y = none := by rw [HYS.out, if_neg hw]
                    go_wp2_with fail
                    ((with_reducible refine (HWi.out).mono ?_); rintro e w' ⟨rfl, hbw⟩)
                    obtain ⟨m, rfl⟩ := grow_mk hbw
                    clear hbw
                    have HJq := Lib.hid (hJ.out.below (Nat.le_refl _) (grow_below m))
                    generalize grow wr m = wq at *
                    go_wp2_with fail
                    refine ⟨rfl, ?_, ?_⟩
                    · rw [hYn]
                      rfl
                    · rw [HG.out]
                      exact H.out.2.1.trans (HJq.out.bl.mono H.out.2.2)
                · have gi : decide ((i : Int) < (N : Int)) = false := by simpa using hi
                  have gin : decide (i < N) = false := by simpa using hi
                  have hYs : Y = some (.mk k (D.map Cd.q) zeroQ) := by rw [hYd.out, chain_end (by rw [HNN.out]; omega)]
                  have hqd := hJ.out.done hk (by omega)
                  obtain ⟨voa, vcap, vg, rfl, _, _⟩ := sl_of_own hJ.out.row
                  have h8 := hJ.out.box
                  simp only [qcells, zeroQ] at h8 hqd
                  have cx0 : wr.cell? ⟨gr + 1, 0, none⟩ = some (.int .i64 k) := (h8).cell 0
                  have fcx0 := (h8).frozen 0
                  have cx1 : wr.cell? ⟨gr + 1, 1, none⟩ = some (.slice voa D.length vcap) := (h8).cell 1
                  have fcx1 := (h8).frozen 1
                  have cx2 : wr.cell? ⟨gr + 1, 2, none⟩ = some (.int .i64 0) := (h8).cell 2
                  have fcx2 := (h8).frozen 2
                  have cx3 : wr.cell? ⟨gr + 1, 3, none⟩ = some (.int .i64 0) := (h8).cell 3
                  have fcx3 := (h8).frozen 3
                  have cx4 : wr.cell? ⟨gr + 1, 4, none⟩ = some (.string ⟨#[]⟩) := (h8).cell 4
                  have fcx4 := (h8).frozen 4
                  have cx5 : wr.cell? ⟨gr + 1, 5, none⟩ = some (.int .i64 0) := (h8).cell 5
                  have fcx5 := (h8).frozen 5
                  have cx6 : wr.cell? ⟨gr + 1, 6, none⟩ = some (.int .i64 0) := (h8).cell 6
                  have fcx6 := (h8).frozen 6
                  have cx7 : wr.cell? ⟨gr + 1, 7, none⟩ = some (.int .i64 0) := (h8).cell 7
                  have fcx7 := (h8).frozen 7
                  have cx8 : wr.cell? ⟨gr + 1, 8, none⟩ = some (.int .i64 0) := (h8).cell 8
                  have fcx8 := (h8).frozen 8
                  have cx9 : wr.cell? ⟨gr + 1, 9, none⟩ = some (.int .i64 0) := (h8).cell 9
                  have fcx9 := (h8).frozen 9
                  have cx10 : wr.cell? ⟨gr + 1, 10, none⟩ = some (.slice none 0 0) := (h8).cell 10
                  have fcx10 := (h8).frozen 10
                  have cx11 : wr.cell? ⟨gr + 1, 11, none⟩ = some (.string ⟨#[]⟩) := (h8).cell 11
                  have fcx11 := (h8).frozen 11
                  have cx12 : wr.cell? ⟨gr + 1, 12, none⟩ = some (.string ⟨#[]⟩) := (h8).cell 12
                  have fcx12 := (h8).frozen 12
                  have cx13 : wr.cell? ⟨gr + 1, 13, none⟩ = some (.bool false) := (h8).cell 13
                  have fcx13 := (h8).frozen 13
                  have lcx := (h8).lt
                  have h1 := H.out.1.below hJ.out.bl lcg
                  have ca0 : wr.cell? ⟨g, 0, none⟩ = some (.int .i64 0) := (h1).cell 0
                  have fca0 := (h1).frozen 0
                  have ca1 : wr.cell? ⟨g, 1, none⟩ = some (.slice none 0 0) := (h1).cell 1
                  have fca1 := (h1).frozen 1
                  have ca2 : wr.cell? ⟨g, 2, none⟩ = some (.int .i64 0) := (h1).cell 2
                  have fca2 := (h1).frozen 2
                  have ca3 : wr.cell? ⟨g, 3, none⟩ = some (.int .i64 0) := (h1).cell 3
                  have fca3 := (h1).frozen 3
                  have ca4 : wr.cell? ⟨g, 4, none⟩ = some (.string ⟨#[]⟩) := (h1).cell 4
                  have fca4 := (h1).frozen 4
                  have ca5 : wr.cell? ⟨g, 5, none⟩ = some (.int .i64 0) := (h1).cell 5
                  have fca5 := (h1).frozen 5
                  have ca6 : wr.cell? ⟨g, 6, none⟩ = some (.int .i64 0) := (h1).cell 6
                  have fca6 := (h1).frozen 6
                  have ca7 : wr.cell? ⟨g, 7, none⟩ = some (.int .i64 0) := (h1).cell 7
                  have fca7 := (h1).frozen 7
                  have ca8 : wr.cell? ⟨g, 8, none⟩ = some (.int .i64 0) := (h1).cell 8
                  have fca8 := (h1).frozen 8
                  have ca9 : wr.cell? ⟨g, 9, none⟩ = some (.int .i64 0) := (h1).cell 9
                  have fca9 := (h1).frozen 9
                  have ca10 : wr.cell? ⟨g, 10, none⟩ = some (.slice none 0 0) := (h1).cell 10
                  have fca10 := (h1).frozen 10
                  have ca11 : wr.cell? ⟨g, 11, none⟩ = some (.string ⟨#[]⟩) := (h1).cell 11
                  have fca11 := (h1).frozen 11
                  have ca12 : wr.cell? ⟨g, 12, none⟩ = some (.string ⟨#[]⟩) := (h1).cell 12
                  have fca12 := (h1).frozen 12
                  have ca13 : wr.cell? ⟨g, 13, none⟩ = some (.bool false) := (h1).cell 13
                  have fca13 := (h1).frozen 13
                  have lca := (h1).lt
                  have HQ5 := Lib.hid hqd
                  subst hYs
                  clear h8 h1 hqd
                  go_wp2_with fail
                  have hz := blk_puts [.int .i64 k, .slice voa D.length vcap, .int .i64 0, .int .i64 0, .string ⟨#[]⟩, .int .i64 0, .int .i64 0, .int .i64 0, .int .i64 0, .int .i64 0, .slice none 0 0, .string ⟨#[]⟩, .string ⟨#[]⟩, .bool false] zero14.toList (wr) 0 [] (H.out.1.below hJ.out.bl H.out.1.lt) rfl rfl
                  have hbz := (H.out.2.1.trans (hJ.out.bl.mono H.out.2.2)).trans (below_put14 [.int .i64 k, .slice voa D.length vcap, .int .i64 0, .int .i64 0, .string ⟨#[]⟩, .int .i64 0, .int .i64 0, .int .i64 0, .int .i64 0, .int .i64 0, .slice none 0 0, .string ⟨#[]⟩, .string ⟨#[]⟩, .bool false] (wr) g 0)
                  have hgz := grownBy_puts [.int .i64 k, .slice voa D.length vcap, .int .i64 0, .int .i64 0, .string ⟨#[]⟩, .int .i64 0, .int .i64 0, .int .i64 0, .int .i64 0, .int .i64 0, .slice none 0 0, .string ⟨#[]⟩, .string ⟨#[]⟩, .bool false] (wr) g 0
                  simp only [puts, Nat.zero_add, Nat.reduceAdd] at hz hbz hgz
                  refine bodyPost_ret (v := .agg #[.int .i64 k, .slice voa D.length vcap, .int .i64 0, .int .i64 0, .string ⟨#[]⟩, .int .i64 0, .int .i64 0, .int .i64 0, .int .i64 0, .int .i64 0, .slice none 0 0, .string ⟨#[]⟩, .string ⟨#[]⟩, .bool false]) ?_ rfl ?_
                  · refine ret_cd Try.results112 ?_ hz rfl
                    rfl
                  · refine ⟨?_, by rw [HG.out]; exact hbz⟩
                    refine ⟨_, rfl, ?_⟩
                    exact (HQ5.out.grown hgz (fun k e _ => by have := Option.some.inj e; omega)).anti fun b hb => Or.inl (by have := HG.out; omega)
          · have q1 : (W1 == [97, 110, 100]) = false := beq_eq_false_iff_ne.2 fun e => hj (Or.inl e)
            have q2 : (W1 == [111, 114]) = false := beq_eq_false_iff_ne.2 fun e => hj (Or.inr e)
            have hYn : Y = none := by rw [← HY2.out, if_neg (fun e => hj (Or.inl e)), if_neg (fun e => hj (Or.inr e))]
            go_wp2_with fail
            refine ⟨rfl, ?_, ?_⟩
            · rw [hYn]
              rfl
            · rw [HG.out]
              exact H.out.2.1.trans (HBF.out.mono H.out.2.2)

end Go.Proofs.Ytgjhaanpkfheeaa
