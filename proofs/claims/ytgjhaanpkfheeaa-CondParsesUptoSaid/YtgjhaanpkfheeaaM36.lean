/- Of my texts: Answers. -/
import Derived.Test.YtgjhaanpkfheeaaM28
import Derived.Test.YtgjhaanpkfheeaaM32
namespace Go.Proofs.Ytgjhaanpkfheeaa
set_option linter.unusedVariables false
set_option linter.unusedSimpArgs false
open Go.RowKit

/-- a value as a token and what its kids lie in -/
def Vl.fw : Vl → Tk × Value
  | .mk t oa _ _ cap kids => (t, .slice oa kids.length cap)
theorem fw_cells : ∀ l : List Vl, (l.map Vl.fw).flatMap fwcells = l.flatMap vcells
  | [] => rfl
  | .mk t oa b o cap kids :: r => by
    rw [List.map_cons, List.flatMap_cons, List.flatMap_cons, fw_cells r]
    rfl
theorem fw_toks : ∀ l : List Vl, (l.map Vl.fw).map (·.1) = (l.map Vl.c).map Vt.tok
  | [] => rfl
  | .mk t oa b o cap kids :: r => by
    rw [List.map_cons, List.map_cons, List.map_cons, List.map_cons, fw_toks r, Vl.c_mk]
    rfl
theorem mayV_up : ∀ (n m : Nat) (l : List Vt), n ≤ m → mayV n l = true → mayV m l = true := by
  intro n
  induction n using Nat.strongRecOn with
  | _ n ih =>
    intro m l hnm h
    induction l with
    | nil => exact mayV_nil m
    | cons x r ihr =>
      obtain ⟨t, k⟩ := x
      rw [mayV_cons] at h ⊢
      simp only [Bool.and_eq_true] at h ⊢
      obtain ⟨⟨h1, h2⟩, h3⟩ := h
      refine ⟨⟨h1, ?_⟩, ihr h3⟩
      by_cases hc : closeF t.kind = 0
      · rw [if_pos hc] at h2 ⊢
        exact h2
      · rw [if_neg hc] at h2 ⊢
        cases n with
        | zero => cases h2
        | succ n =>
          cases m with
          | zero => omega
          | succ m => exact ih n (by omega) m k (by omega) h2
theorem may_kid64 : ∀ (n : Nat) (K : List Vt), mayV n K = true → ∀ t k, .mk t k ∈ K → mayV n k = true
  | n, [], _, _, _, h => by cases h
  | n, .mk t' k' :: r, h, t, k, hm => by
    rw [mayV_cons] at h
    simp only [Bool.and_eq_true] at h
    rcases List.mem_cons.1 hm with e | e
    · obtain ⟨rfl, rfl⟩ : t = t' ∧ k = k' := by simpa using e
      obtain ⟨⟨_, h2⟩, _⟩ := h
      by_cases hc : closeF t.kind = 0
      · rw [if_pos hc] at h2
        rw [List.isEmpty_iff.1 h2]
        exact mayV_nil n
      · rw [if_neg hc] at h2
        cases n with
        | zero => cases h2
        | succ n => exact mayV_up n (n + 1) k (Nat.le_succ n) h2
    · exact may_kid64 n r h.2 t k e
theorem leaf_an (w : World) (h : Nat) (L : Option (Int × Int × List UInt8)) : AnIn w (h + 1) (.mk L none 0 0 0 []) := ⟨⟨rfl, Nat.le_refl _, Nat.zero_le _, fun h => absurd h (by simp), fun j v h => by simp at h⟩, fun i x h => by simp at h⟩
theorem told_cells {X : Option (Int × Int × List UInt8)} {k a1 a2 : Int} {s : ByteArray} {ok : Bool} (h : toldV X = .tuple #[.agg #[.int .i64 k, .slice none 0 0, .int .i64 a1, .int .i64 a2, .string s, .int .i64 0, .int .i64 0, .int .i64 0, .int .i64 0, .int .i64 0, .slice none 0 0, .string ⟨#[]⟩, .string ⟨#[]⟩, .bool false], .bool ok]) : lcells1 X = [.int .i64 k, .slice none 0 0, .int .i64 a1, .int .i64 a2, .string s, .int .i64 0, .int .i64 0, .int .i64 0, .int .i64 0, .int .i64 0, .slice none 0 0, .string ⟨#[]⟩, .string ⟨#[]⟩, .bool false] ∧ X.isSome = ok := by
  cases X with
  | none =>
    injection h with h
    injection h with h
    injection h with h1 h2
    injection h1 with h1
    injection h2 with h2 _
    injection h2 with h2
    exact ⟨congrArg Array.toList h1, h2⟩
  | some L =>
    injection h with h
    injection h with h
    injection h with h1 h2
    injection h1 with h1
    injection h2 with h2 _
    injection h2 with h2
    exact ⟨congrArg Array.toList h1, h2⟩

/-- answers that are gathered in a row of its own -/
structure Kan (B : Nat) (w0 w : World) (v : Value) (D : List An) : Prop where
  bl : Below B w0 w
  row : w.ownsRow B 103 16 v D.length (D.flatMap acells)
  safe : ∃ hh, Safe (fun b => b < B ∨ v.ownBlock = some b) w fun w => ∀ x ∈ D, AnIn w hh x
theorem Kan.below {B : Nat} {w0 w w' : World} {v : Value} {D : List An} (h : Kan B w0 w v D) (hs : B ≤ w0.heap.size) (hb : Below w.heap.size w w') : Kan B w0 w' v D := by
  obtain ⟨hh, hS⟩ := h.safe
  exact ⟨h.bl.trans (hb.mono (by have := h.bl.size; omega)), owns_belowW h.row hb, hh, hS.below hb⟩
/-- what has been written is no row of the answers, nor old -/
theorem Kan.far {B g : Nat} {w0 w w' : World} {v : Value} {D : List An} (h : Kan B w0 w v D) (hs : B ≤ w0.heap.size) (hg : w.grownBy w' (some g)) (hB : B ≤ g) (hne : v.ownBlock ≠ some g) (hnew : ∃ w1 : World, Kan B w0 w1 v D ∧ w1.heap.size ≤ g ∧ Below w1.heap.size w1 w) : Kan B w0 w' v D := by
  obtain ⟨w1, hk, hg1, hb1⟩ := hnew
  have hb : Below w1.heap.size w1 w' := ⟨hg.os.trans hb1.os, hg.tape.trans hb1.tape, hg.output.trans hb1.output, Nat.le_trans hb1.size hg.size, fun j hj => (hg.block j (Nat.lt_of_lt_of_le hj hb1.size) (fun e => by have := Option.some.inj e; omega)).trans (hb1.block j hj)⟩
  exact hk.below hs hb
theorem Kan.add {B B3 : Nat} {w0 w w9 : World} {gg cap3 h2 : Nat} {v : Value} {D : List An} {x2 : An} {cs : List Value} (hJ : Kan B w0 w v D) (hs : B ≤ w0.heap.size) (hBB : B ≤ B3) (hv3 : ∀ b, v.ownBlock = some b → b < B3)
    (hx : Safe (· < B3) w fun w => AnIn w h2 x2)
    (ho : w9.ownsRow B 103 16 (.slice (some ⟨gg, 0, none⟩) (D.length + 1) cap3) (D.length + 1) (D.flatMap acells ++ cs)) (hcs : acells x2 = cs)
    (hG : w.grownBy w9 v.ownBlock) (hat : v.ownBlock = some gg ∨ w.heap.size ≤ gg) :
    Kan B w0 w9 (.slice (some ⟨gg, 0, none⟩) (D.length + 1) cap3) (D ++ [x2]) := by
  have hww : B ≤ w.heap.size := by have := hJ.bl.size; omega
  have hrow := hJ.row.lt
  refine ⟨⟨hG.os.trans hJ.bl.os, hG.tape.trans hJ.bl.tape, hG.output.trans hJ.bl.output, Nat.le_trans hJ.bl.size hG.size, fun j hj => (hG.block j (by omega) (fun e => by have := (hrow j e.symm).1; omega)).trans (hJ.bl.block j hj)⟩, ?_, ?_⟩
  · rw [List.length_append, List.flatMap_append, List.flatMap_singleton, hcs]
    exact ho
  · obtain ⟨hh, hS⟩ := hJ.safe
    refine ⟨max hh h2, ?_⟩
    have hA : ∀ b, (b < B ∨ (Value.slice (some ⟨gg, 0, none⟩) (D.length + 1) cap3).ownBlock = some b) → (b < B ∨ v.ownBlock = some b) ∨ w.heap.size ≤ b := by
      intro b hb
      rcases hb with hb | hb
      · exact Or.inl (Or.inl hb)
      · have e : gg = b := Option.some.inj hb
        subst e
        rcases hat with h | h
        · exact Or.inl (Or.inr h)
        · exact Or.inr (by omega)
    have s1 := ((hS.wide (A' := fun b => (b < B ∨ v.ownBlock = some b) ∨ w.heap.size ≤ b) fun b h => h).grown hG (fun k e _ => Or.inl (Or.inr e))).anti fun b hb _ => hA b hb
    have s2 := ((hx.wide (A' := fun b => b < B3 ∨ w.heap.size ≤ b) fun b h => h).grown hG (fun k e _ => Or.inl (hv3 k e))).anti (A' := fun b => b < B ∨ (Value.slice (some ⟨gg, 0, none⟩) (D.length + 1) cap3).ownBlock = some b) fun b hb _ => by
      rcases hA b hb with (hb | hb) | hb
      · exact Or.inl (by omega)
      · exact Or.inl (hv3 b hb)
      · exact Or.inr hb
    refine Safe.mono (ψ := fun w => ∀ y ∈ D ++ [x2], AnIn w (max hh h2) y) (s1.and s2) fun w' hw y hy => ?_
    rcases List.mem_append.1 hy with h | h
    · exact AnIn.mono _ _ (Nat.le_max_left _ _) (hw.1 y h)
    · obtain rfl := List.mem_singleton.1 h
      exact AnIn.mono _ _ (Nat.le_max_right _ _) hw.2

def AnswersAt (h : Nat) : Prop := ∀ (l : List Vl) (oa : Option Addr) (cap bb o : Nat) (w : World), VsIn w h oa cap bb o l → szV (l.map Vl.c) ≤ 1073741824 →
  Calls Try.prog 58 #[.slice oa l.length cap, .func (.func 56) #[] #[]] w fun e w' => (∃ (am : List An) (aoa : Option Addr) (acap ab ha : Nat), e = .returned (.slice aoa am.length acap) ∧ Safe (· < w.heap.size) w' (fun w => AnsIn w ha aoa acap ab 0 am) ∧ (mayV 64 (l.map Vl.c) = true → AnsFor true h (solidV (l.map Vl.c)) am)) ∧ Below w.heap.size w w'

def ForUp (h : Nat) (S : List Vt) (D : List An) (i : Nat) : Prop := ∀ (h' j : Nat) (t : Tk) (k : List Vt), h = h' + 1 → j < i → S[j]? = some (.mk t k) → ((D[j]?).getD zeroAn).L = (if opensV (.mk t k) then leafF true (.mk t k) else none) ∧ (t.kind = 21 → ((D[j]?).getD zeroAn).L = none → AnsFor true h' (solidV k) ((D[j]?).getD zeroAn).kids)
theorem for_snoc {h : Nat} {S : List Vt} {D : List An} {i : Nat} {X : An} (hD : D.length = i) (hf : ForUp h S D i) (hx : ∀ h' t k, h = h' + 1 → S[i]? = some (.mk t k) → X.L = (if opensV (.mk t k) then leafF true (.mk t k) else none) ∧ (t.kind = 21 → X.L = none → AnsFor true h' (solidV k) X.kids)) : ForUp h S (D ++ [X]) (i + 1) := by
  intro h' j t k hh hj hs
  by_cases hji : j < i
  · have := hf h' j t k hh hji hs
    rw [List.getElem?_append_left (by omega)]
    exact this
  · obtain rfl : j = i := by omega
    rw [List.getElem?_append_right (by omega), hD, Nat.sub_self]
    exact hx h' t k hh hs
theorem for_done {h : Nat} {S : List Vt} {D : List An} {i : Nat} (hi : S.length ≤ i) (hf : ForUp h S D i) : AnsFor true h S D := by
  cases h with
  | zero => trivial
  | succ h => exact fun j t k hs => hf h j t k rfl (by have := (List.getElem?_eq_some_iff.1 hs).1; omega) hs

set_option maxRecDepth 20000 in
set_option maxHeartbeats 16000000 in
theorem answers_step (h : Nat) (hR : ∀ h', h = h' + 1 → AnswersAt h') : AnswersAt h := by
  intro l oa cap bb o w hs hz
  obtain ⟨N, hN⟩ : ∃ N, l.length = N := ⟨_, rfl⟩
  obtain ⟨L, hL⟩ : ∃ L, l.map Vl.c = L := ⟨_, rfl⟩
  have hm := mayv5_any h l oa cap bb o w hs
  rw [hN, hL] at hm ⊢
  rw [hL] at hz
  have HM := Lib.hid hm
  have HS := Lib.hid (And.intro hs (And.intro hz (And.intro hN hL)))
  have HR := Lib.hid hR
  obtain ⟨M, hM⟩ : ∃ M, mayV 64 L = M := ⟨_, rfl⟩
  rw [hM] at HM
  clear hm hs hz hN hL hR
  go_enter Try.func58, Try.ntmps58
  go_wp2_with fail
  ((with_reducible refine (HM.out).mono ?_); rintro e w' ⟨rfl, hbw⟩)
  obtain ⟨m, rfl⟩ := grow_mk hbw
  clear hbw
  cases M with
  | false =>
    go_wp2_with fail
    go_ret
    exact ⟨⟨[], none, 0, 0, 0, rfl, fun w' _ _ => nil_ans w' 0, fun h => by rw [hM] at h; cases h⟩, grow_below m⟩
  | true =>
    have HB := Lib.hid (grow_below m)
    have HS2 := Lib.hid (HS.out.1.below (grow_below m))
    clear HM
    generalize grow w m = wm at *
    have hpk := rpack_any h l oa cap bb o wm HS2.out
    rw [HS.out.2.2.1, HS.out.2.2.2] at hpk
    have HPK := Lib.hid hpk
    clear hpk
    go_wp2_with fail
    ((with_reducible refine HPK.out.mono ?_); rintro e wa ⟨⟨P, poa, pcap, pb, rfl, hPc, hPv, hPl⟩, hbw⟩)
    obtain ⟨Q, hQ⟩ : ∃ Q, P.length = Q := ⟨_, rfl⟩
    obtain ⟨SL, hSL⟩ : ∃ SL, solidV L = SL := ⟨_, rfl⟩
    rw [hSL] at hPc
    have hQ30 : Q ≤ 1073741824 := by
      have h1 := sz_len SL
      have h2 := sz_solid L
      have h3 := HS.out.2.1
      rw [hSL] at h2
      rw [← hPc, List.length_map, hQ] at h1
      rw [hPc] at h1
      omega
    have hcl := hPv.sl.le
    have hcm := hPv.sl.max
    unfold maxLen at hcm
    rw [hQ] at hcl
    have HP := Lib.hid (And.intro hPv (And.intro hPc (And.intro hPl (And.intro hQ hSL))))
    have HB2 := Lib.hid (HB.out.trans (hbw.mono HB.out.size))
    simp only [hQ]
    clear hPc hPv hPl hbw hQ hSL HPK HB
    have hb0 : Below wa.heap.size wa wa := Below.refl _ _
    go_wp2_with fail
    go_loopg [5, 15] Q (fun q s5 s15 wr => ∃ (i : Nat) (D : List An) (v : Value), s15 = .int .i64 i ∧ s5 = v ∧ Hid (Kan wa.heap.size wa wr v D) ∧ Hid (ForUp h SL D i) ∧ D.length = i ∧ i ≤ Q ∧ Q - i ≤ q)
    case atStart => exact ⟨0, [], _, rfl, rfl, Lib.hid ⟨hb0, World.ownsRow_nil _ _ _ _, 0, fun _ _ _ x hx => by cases hx⟩, Lib.hid (fun h' j t k hh hj _ => absurd hj (Nat.not_lt_zero _)), rfl, Nat.zero_le _, Nat.le_refl _⟩
    case round =>
      clear hb0
      obtain ⟨i, D, v, rfl, rfl, hK, hF, hDi, hiN, hq⟩ := hrel
      have HDi := Lib.hid hDi
      have hDb : D.length ≤ i := Nat.le_of_eq hDi
      clear hDi
      by_cases hi : i < Q
      · have gi : decide ((i : Int) < (Q : Int)) = true := by simpa using hi
        have gin : decide (i < Q) = true := by simpa using hi
        have ij0 : (0 : Int) ≤ (i : Int) := Int.natCast_nonneg _
        have ijN : (i : Int) < (Q : Int) := by omega
        have hil : i < P.length := by rw [HP.out.2.2.2.1]; exact hi
        have hli : P[i]? = some P[i] := List.getElem?_eq_getElem hil
        obtain ⟨x, hx⟩ : ∃ x, P[i] = x := ⟨_, rfl⟩
        rw [hx] at hli
        have hLi : SL[i]? = some x.c := by rw [← HP.out.2.1, List.getElem?_map, hli]; rfl
        have hvs := HP.out.1.below hK.out.bl
        obtain ⟨rfl, hbl⟩ := hvs.sl.lies (by rw [HP.out.2.2.2.1]; omega)
        have hvx := hvs.each i x hli
        have hxl : x.c ∈ L := by
          rw [← HS.out.2.2.2]
          exact List.mem_map_of_mem (HP.out.2.2.1 x (List.mem_of_getElem? hli))
        obtain ⟨h, rfl⟩ : ∃ h', h = h' + 1 := by
          cases h with
          | zero => exact hvx.elim
          | succ h => exact ⟨h, rfl⟩
        obtain ⟨t, koa, kb, ko, kcap, kids⟩ := x
        obtain ⟨K, hKn⟩ : ∃ K, kids.length = K := ⟨_, rfl⟩
        have f0 := hvs.cell hli (j := 0) rfl
        have f1 := hvs.cell hli (j := 1) rfl
        have f2 := hvs.cell hli (j := 2) rfl
        have f3 := hvs.cell hli (j := 3) rfl
        have f4 := hvs.cell hli (j := 4) rfl
        have f5 := hvs.cell hli (j := 5) rfl
        have f6 := hvs.cell hli (j := 6) rfl
        simp only [Nat.add_zero, Nat.zero_add] at f0 f1 f2 f3 f4 f5 f6
        rw [hKn] at f6
        obtain ⟨tk, tt, ⟨tn, td⟩, ti, tid⟩ := t
        rw [Vl.c_mk] at hLi hxl
        have hmk : mayV 64 (kids.map Vl.c) = true := may_kid64 64 L hM _ _ hxl
        have hzk : szV (kids.map Vl.c) ≤ 1073741824 := by have := sz_kid _ _ hxl; have := HS.out.2.1; omega
        have HKD := Lib.hid (And.intro hvx.kids (And.intro hmk (And.intro hzk (And.intro hKn hLi))))
        have HOP := Lib.hid (fun wx => opens15_any tk tt tn td ti tid koa K kcap (kids.map Vl.c) wx)
        clear hvs hil hx hvx hxl hmk hzk hli hKn hLi
        go_upto_region 8 with fail
        have hbx := below_box wr (.cells #[.int .i64 tk, .string ⟨tt.toArray⟩, .int .i64 tn, .int .i64 td, .bool ti, .bool tid, .slice koa K kcap] 74)
        have hb8 := hbx.alloc (by simp) (.cells #[.int .i64 0, .slice none 0 0, .int .i64 0, .int .i64 0, .string ⟨#[]⟩, .int .i64 0, .int .i64 0, .int .i64 0, .int .i64 0, .int .i64 0, .slice none 0 0, .string ⟨#[]⟩, .string ⟨#[]⟩, .bool false, .bool false, .slice none 0 0] 103)
        have h7 := (Blk.new wr 74 #[.int .i64 tk, .string ⟨tt.toArray⟩, .int .i64 tn, .int .i64 td, .bool ti, .bool tid, .slice koa K kcap]).old (.cells #[.int .i64 0, .slice none 0 0, .int .i64 0, .int .i64 0, .string ⟨#[]⟩, .int .i64 0, .int .i64 0, .int .i64 0, .int .i64 0, .int .i64 0, .slice none 0 0, .string ⟨#[]⟩, .string ⟨#[]⟩, .bool false, .bool false, .slice none 0 0] 103)
        have h8 := Blk.new (wr.alloc (.cells #[.int .i64 tk, .string ⟨tt.toArray⟩, .int .i64 tn, .int .i64 td, .bool ti, .bool tid, .slice koa K kcap] 74)) 103 #[.int .i64 0, .slice none 0 0, .int .i64 0, .int .i64 0, .string ⟨#[]⟩, .int .i64 0, .int .i64 0, .int .i64 0, .int .i64 0, .int .i64 0, .slice none 0 0, .string ⟨#[]⟩, .string ⟨#[]⟩, .bool false, .bool false, .slice none 0 0]
        have hs8 : (wr.alloc (.cells #[.int .i64 tk, .string ⟨tt.toArray⟩, .int .i64 tn, .int .i64 td, .bool ti, .bool tid, .slice koa K kcap] 74)).heap.size = wr.heap.size + 1 := by simp
        rw [hs8] at h8
        have HBR := Lib.hid hb8
        have H7 := Lib.hid h7
        have H8 := Lib.hid h8
        clear hbx hb8 hs8 h7 h8 f0 f1 f2 f3 f4 f5 f6
        obtain ⟨g7, hg7⟩ : ∃ g7, wr.heap.size = g7 := ⟨_, rfl⟩
        have HG7 := Lib.hid hg7
        simp only [hg7] at H7 H8 ⊢
        clear hg7
        generalize World.alloc (World.alloc wr _) _ = wv at *
        have h7 := H7.out
        have h8 := H8.out
        have cv0 : wv.cell? ⟨g7, 0, none⟩ = some (.int .i64 tk) := (h7).cell 0
        have fcv0 := (h7).frozen 0
        have cv1 : wv.cell? ⟨g7, 1, none⟩ = some (.string ⟨tt.toArray⟩) := (h7).cell 1
        have fcv1 := (h7).frozen 1
        have cv2 : wv.cell? ⟨g7, 2, none⟩ = some (.int .i64 tn) := (h7).cell 2
        have fcv2 := (h7).frozen 2
        have cv3 : wv.cell? ⟨g7, 3, none⟩ = some (.int .i64 td) := (h7).cell 3
        have fcv3 := (h7).frozen 3
        have cv4 : wv.cell? ⟨g7, 4, none⟩ = some (.bool ti) := (h7).cell 4
        have fcv4 := (h7).frozen 4
        have cv5 : wv.cell? ⟨g7, 5, none⟩ = some (.bool tid) := (h7).cell 5
        have fcv5 := (h7).frozen 5
        have cv6 : wv.cell? ⟨g7, 6, none⟩ = some (.slice koa K kcap) := (h7).cell 6
        have fcv6 := (h7).frozen 6
        have lcv := (h7).lt
        have ca0 : wv.cell? ⟨g7 + 1, 0, none⟩ = some (.int .i64 0) := (h8).cell 0
        have fca0 := (h8).frozen 0
        have ca1 : wv.cell? ⟨g7 + 1, 1, none⟩ = some (.slice none 0 0) := (h8).cell 1
        have fca1 := (h8).frozen 1
        have ca2 : wv.cell? ⟨g7 + 1, 2, none⟩ = some (.int .i64 0) := (h8).cell 2
        have fca2 := (h8).frozen 2
        have ca3 : wv.cell? ⟨g7 + 1, 3, none⟩ = some (.int .i64 0) := (h8).cell 3
        have fca3 := (h8).frozen 3
        have ca4 : wv.cell? ⟨g7 + 1, 4, none⟩ = some (.string ⟨#[]⟩) := (h8).cell 4
        have fca4 := (h8).frozen 4
        have ca5 : wv.cell? ⟨g7 + 1, 5, none⟩ = some (.int .i64 0) := (h8).cell 5
        have fca5 := (h8).frozen 5
        have ca6 : wv.cell? ⟨g7 + 1, 6, none⟩ = some (.int .i64 0) := (h8).cell 6
        have fca6 := (h8).frozen 6
        have ca7 : wv.cell? ⟨g7 + 1, 7, none⟩ = some (.int .i64 0) := (h8).cell 7
        have fca7 := (h8).frozen 7
        have ca8 : wv.cell? ⟨g7 + 1, 8, none⟩ = some (.int .i64 0) := (h8).cell 8
        have fca8 := (h8).frozen 8
        have ca9 : wv.cell? ⟨g7 + 1, 9, none⟩ = some (.int .i64 0) := (h8).cell 9
        have fca9 := (h8).frozen 9
        have ca10 : wv.cell? ⟨g7 + 1, 10, none⟩ = some (.slice none 0 0) := (h8).cell 10
        have fca10 := (h8).frozen 10
        have ca11 : wv.cell? ⟨g7 + 1, 11, none⟩ = some (.string ⟨#[]⟩) := (h8).cell 11
        have fca11 := (h8).frozen 11
        have ca12 : wv.cell? ⟨g7 + 1, 12, none⟩ = some (.string ⟨#[]⟩) := (h8).cell 12
        have fca12 := (h8).frozen 12
        have ca13 : wv.cell? ⟨g7 + 1, 13, none⟩ = some (.bool false) := (h8).cell 13
        have fca13 := (h8).frozen 13
        have ca14 : wv.cell? ⟨g7 + 1, 14, none⟩ = some (.bool false) := (h8).cell 14
        have fca14 := (h8).frozen 14
        have ca15 : wv.cell? ⟨g7 + 1, 15, none⟩ = some (.slice none 0 0) := (h8).cell 15
        have fca15 := (h8).frozen 15
        have lca := (h8).lt
        clear h7 h8
        have hbsz := hK.out.bl.size
        obtain ⟨BO, hBO⟩ : ∃ b, opensV (.mk ⟨tk, tt, (tn, td), ti, tid⟩ (kids.map Vl.c)) = b := ⟨_, rfl⟩
        rw [hBO] at HOP
        have HBO := Lib.hid hBO
        cases BO with
        | false =>
          have gk : (tk == 21) = false := by
            have e : ((tk == 21) || (tk == 2)) = false := hBO
            exact (Bool.or_eq_false_iff.1 e).1
          clear hBO
          go_wp2_with fail
          ((with_reducible refine ((HOP.out _)).mono ?_); rintro e w' ⟨rfl, hbw⟩)
          obtain ⟨m1, rfl⟩ := grow_mk hbw
          clear hbw
          have HBz := Lib.hid (HBR.out.trans ((grow_below m1).mono HBR.out.size))
          have h8z := H8.out.grow m1
          have h7z := H7.out.grow m1
          have hbwv := grow_size m1
          clear ca0 fca0 ca1 fca1 ca2 fca2 ca3 fca3 ca4 fca4 ca5 fca5 ca6 fca6 ca7 fca7 ca8 fca8 ca9 fca9 ca10 fca10 ca11 fca11 ca12 fca12 ca13 fca13 ca14 fca14 ca15 fca15 lca cv0 fcv0 cv1 fcv1 cv2 fcv2 cv3 fcv3 cv4 fcv4 cv5 fcv5 cv6 fcv6 lcv
          generalize grow wv m1 = wz at *
          have cz0 : wz.cell? ⟨g7 + 1, 0, none⟩ = some (.int .i64 0) := (h8z).cell 0
          have fcz0 := (h8z).frozen 0
          have cz1 : wz.cell? ⟨g7 + 1, 1, none⟩ = some (.slice none 0 0) := (h8z).cell 1
          have fcz1 := (h8z).frozen 1
          have cz2 : wz.cell? ⟨g7 + 1, 2, none⟩ = some (.int .i64 0) := (h8z).cell 2
          have fcz2 := (h8z).frozen 2
          have cz3 : wz.cell? ⟨g7 + 1, 3, none⟩ = some (.int .i64 0) := (h8z).cell 3
          have fcz3 := (h8z).frozen 3
          have cz4 : wz.cell? ⟨g7 + 1, 4, none⟩ = some (.string ⟨#[]⟩) := (h8z).cell 4
          have fcz4 := (h8z).frozen 4
          have cz5 : wz.cell? ⟨g7 + 1, 5, none⟩ = some (.int .i64 0) := (h8z).cell 5
          have fcz5 := (h8z).frozen 5
          have cz6 : wz.cell? ⟨g7 + 1, 6, none⟩ = some (.int .i64 0) := (h8z).cell 6
          have fcz6 := (h8z).frozen 6
          have cz7 : wz.cell? ⟨g7 + 1, 7, none⟩ = some (.int .i64 0) := (h8z).cell 7
          have fcz7 := (h8z).frozen 7
          have cz8 : wz.cell? ⟨g7 + 1, 8, none⟩ = some (.int .i64 0) := (h8z).cell 8
          have fcz8 := (h8z).frozen 8
          have cz9 : wz.cell? ⟨g7 + 1, 9, none⟩ = some (.int .i64 0) := (h8z).cell 9
          have fcz9 := (h8z).frozen 9
          have cz10 : wz.cell? ⟨g7 + 1, 10, none⟩ = some (.slice none 0 0) := (h8z).cell 10
          have fcz10 := (h8z).frozen 10
          have cz11 : wz.cell? ⟨g7 + 1, 11, none⟩ = some (.string ⟨#[]⟩) := (h8z).cell 11
          have fcz11 := (h8z).frozen 11
          have cz12 : wz.cell? ⟨g7 + 1, 12, none⟩ = some (.string ⟨#[]⟩) := (h8z).cell 12
          have fcz12 := (h8z).frozen 12
          have cz13 : wz.cell? ⟨g7 + 1, 13, none⟩ = some (.bool false) := (h8z).cell 13
          have fcz13 := (h8z).frozen 13
          have cz14 : wz.cell? ⟨g7 + 1, 14, none⟩ = some (.bool false) := (h8z).cell 14
          have fcz14 := (h8z).frozen 14
          have cz15 : wz.cell? ⟨g7 + 1, 15, none⟩ = some (.slice none 0 0) := (h8z).cell 15
          have fcz15 := (h8z).frozen 15
          have lcz := (h8z).lt
          have cv0 : wz.cell? ⟨g7, 0, none⟩ = some (.int .i64 tk) := (h7z).cell 0
          have fcv0 := (h7z).frozen 0
          have cv1 : wz.cell? ⟨g7, 1, none⟩ = some (.string ⟨tt.toArray⟩) := (h7z).cell 1
          have fcv1 := (h7z).frozen 1
          have cv2 : wz.cell? ⟨g7, 2, none⟩ = some (.int .i64 tn) := (h7z).cell 2
          have fcv2 := (h7z).frozen 2
          have cv3 : wz.cell? ⟨g7, 3, none⟩ = some (.int .i64 td) := (h7z).cell 3
          have fcv3 := (h7z).frozen 3
          have cv4 : wz.cell? ⟨g7, 4, none⟩ = some (.bool ti) := (h7z).cell 4
          have fcv4 := (h7z).frozen 4
          have cv5 : wz.cell? ⟨g7, 5, none⟩ = some (.bool tid) := (h7z).cell 5
          have fcv5 := (h7z).frozen 5
          have cv6 : wz.cell? ⟨g7, 6, none⟩ = some (.slice koa K kcap) := (h7z).cell 6
          have fcv6 := (h7z).frozen 6
          have lcv := (h7z).lt
          clear h8z h7z
          have HSX := Lib.hid (show Safe (· < wv.heap.size) wz (fun w => AnIn w 1 zeroAn) from fun w' _ _ => zero_an w' 0)
          have HXF := Lib.hid (show ∀ h' t k, h + 1 = h' + 1 → SL[i]? = some (.mk t k) → zeroAn.L = (if opensV (.mk t k) then leafF true (.mk t k) else none) ∧ (t.kind = 21 → zeroAn.L = none → AnsFor true h' (solidV k) zeroAn.kids) from fun h' t k hh hs => by
            obtain ⟨rfl, rfl⟩ : (⟨tk, tt, (tn, td), ti, tid⟩ : Tk) = t ∧ kids.map Vl.c = k := by
              have := HKD.out.2.2.2.2.symm.trans hs
              simpa using this
            refine ⟨by rw [HBO.out]; rfl, fun h21 => ?_⟩
            have h21 : tk = 21 := h21
            rw [h21] at gk
            cases gk)
          have HKz := Lib.hid (hK.out.below (Nat.le_refl _) HBz.out)
          have HVL := Lib.hid hK.out.row.lt
          have hbz := HKz.out.bl.size
          have hszr := HBz.out.size
          have hszv := HBR.out.size
          clear hK
          go_wp2_with (at_builtin; refine wpList_add elAns rfl _ _ rfl rfl (HKz.out.row.alloc _) (by simp; omega) (Blk.new wz _ _) 1 rfl rfl (by simp [Value.oneCell']) (by omega) (by omega) ?_; intro gg cap3 w3 ho3 hg3 hat hvb; have H3 := Lib.hid (And.intro ho3 (And.intro hg3 hat)); clear ho3 hg3 hat hvb)
          go_roundg (Q - (i + 1))
          case measure => omega
          case rel =>
            obtain ⟨ho3, hg3, hat⟩ := H3.out
            exact ⟨i + 1, D ++ [zeroAn], _, by go_num, rfl, Lib.hid ((HKz.out.below (Nat.le_refl _) (below_box wz _)).add (B3 := wv.heap.size) (Nat.le_refl _) (by omega) (fun b e => by have := (HVL.out b e).2; omega) (HSX.out.alloc _) ho3 rfl (show World.grownBy _ _ _ from hg3) (hat.imp id fun e => by omega)), Lib.hid (for_snoc HDi.out hF.out HXF.out), by simp [HDi.out], hi, Nat.le_refl _⟩
        | true =>
          obtain ⟨X, hX⟩ : ∃ X, nameQ (.mk ⟨tk, tt, (tn, td), ti, tid⟩ (kids.map Vl.c)) = X := ⟨_, rfl⟩
          obtain ⟨k, a1, a2, s, ok, hXp, hX1, hX0⟩ := told_parts X
          have hXC := told_cells hXp
          have HXC := Lib.hid hXC
          have HX0 := Lib.hid (And.intro hX0 hX)
          have HNM := Lib.hid (show ∀ wx, Below wv.heap.size wv wx → Calls Try.prog 56 #[.agg #[.int .i64 tk, .string ⟨tt.toArray⟩, .int .i64 tn, .int .i64 td, .bool ti, .bool tid, .slice koa K kcap]] wx fun e w' => e = .returned (.tuple #[.agg #[.int .i64 k, .slice none 0 0, .int .i64 a1, .int .i64 a2, .string s, .int .i64 0, .int .i64 0, .int .i64 0, .int .i64 0, .int .i64 0, .slice none 0 0, .string ⟨#[]⟩, .string ⟨#[]⟩, .bool false], .bool ok]) ∧ Below wx.heap.size wx w' from fun wx hx => by
            have hkv := HKD.out.1.below (HBR.out.trans (hx.mono HBR.out.size))
            have hsl := hkv.sl
            rw [← fw_cells, ← List.length_map (f := Vl.fw)] at hsl
            have := kname_off ko tk tt tn td ti tid (kids.map Vl.fw) koa kcap kb wx hsl
            rw [fw_toks, ← nameQ_mk, hX, hXp, List.length_map, HKD.out.2.2.2.1] at this
            exact this)
          clear hXC hX hX1 hX0 hXp hBO
          go_wp2_with fail
          ((with_reducible refine ((HOP.out _)).mono ?_); rintro e w' ⟨rfl, hbw⟩)
          obtain ⟨m1, rfl⟩ := grow_mk hbw
          clear hbw
          have h7 := H7.out.grow m1
          have h8 := H8.out.grow m1
          have HB1 := Lib.hid (grow_below m1)
          clear ca0 fca0 ca1 fca1 ca2 fca2 ca3 fca3 ca4 fca4 ca5 fca5 ca6 fca6 ca7 fca7 ca8 fca8 ca9 fca9 ca10 fca10 ca11 fca11 ca12 fca12 ca13 fca13 ca14 fca14 ca15 fca15 lca cv0 fcv0 cv1 fcv1 cv2 fcv2 cv3 fcv3 cv4 fcv4 cv5 fcv5 cv6 fcv6 lcv
          generalize grow wv m1 = wo at *
          have cv0 : wo.cell? ⟨g7, 0, none⟩ = some (.int .i64 tk) := (h7).cell 0
          have fcv0 := (h7).frozen 0
          have cv1 : wo.cell? ⟨g7, 1, none⟩ = some (.string ⟨tt.toArray⟩) := (h7).cell 1
          have fcv1 := (h7).frozen 1
          have cv2 : wo.cell? ⟨g7, 2, none⟩ = some (.int .i64 tn) := (h7).cell 2
          have fcv2 := (h7).frozen 2
          have cv3 : wo.cell? ⟨g7, 3, none⟩ = some (.int .i64 td) := (h7).cell 3
          have fcv3 := (h7).frozen 3
          have cv4 : wo.cell? ⟨g7, 4, none⟩ = some (.bool ti) := (h7).cell 4
          have fcv4 := (h7).frozen 4
          have cv5 : wo.cell? ⟨g7, 5, none⟩ = some (.bool tid) := (h7).cell 5
          have fcv5 := (h7).frozen 5
          have cv6 : wo.cell? ⟨g7, 6, none⟩ = some (.slice koa K kcap) := (h7).cell 6
          have fcv6 := (h7).frozen 6
          have lcv := (h7).lt
          have ca0 : wo.cell? ⟨g7 + 1, 0, none⟩ = some (.int .i64 0) := (h8).cell 0
          have fca0 := (h8).frozen 0
          have ca1 : wo.cell? ⟨g7 + 1, 1, none⟩ = some (.slice none 0 0) := (h8).cell 1
          have fca1 := (h8).frozen 1
          have ca2 : wo.cell? ⟨g7 + 1, 2, none⟩ = some (.int .i64 0) := (h8).cell 2
          have fca2 := (h8).frozen 2
          have ca3 : wo.cell? ⟨g7 + 1, 3, none⟩ = some (.int .i64 0) := (h8).cell 3
          have fca3 := (h8).frozen 3
          have ca4 : wo.cell? ⟨g7 + 1, 4, none⟩ = some (.string ⟨#[]⟩) := (h8).cell 4
          have fca4 := (h8).frozen 4
          have ca5 : wo.cell? ⟨g7 + 1, 5, none⟩ = some (.int .i64 0) := (h8).cell 5
          have fca5 := (h8).frozen 5
          have ca6 : wo.cell? ⟨g7 + 1, 6, none⟩ = some (.int .i64 0) := (h8).cell 6
          have fca6 := (h8).frozen 6
          have ca7 : wo.cell? ⟨g7 + 1, 7, none⟩ = some (.int .i64 0) := (h8).cell 7
          have fca7 := (h8).frozen 7
          have ca8 : wo.cell? ⟨g7 + 1, 8, none⟩ = some (.int .i64 0) := (h8).cell 8
          have fca8 := (h8).frozen 8
          have ca9 : wo.cell? ⟨g7 + 1, 9, none⟩ = some (.int .i64 0) := (h8).cell 9
          have fca9 := (h8).frozen 9
          have ca10 : wo.cell? ⟨g7 + 1, 10, none⟩ = some (.slice none 0 0) := (h8).cell 10
          have fca10 := (h8).frozen 10
          have ca11 : wo.cell? ⟨g7 + 1, 11, none⟩ = some (.string ⟨#[]⟩) := (h8).cell 11
          have fca11 := (h8).frozen 11
          have ca12 : wo.cell? ⟨g7 + 1, 12, none⟩ = some (.string ⟨#[]⟩) := (h8).cell 12
          have fca12 := (h8).frozen 12
          have ca13 : wo.cell? ⟨g7 + 1, 13, none⟩ = some (.bool false) := (h8).cell 13
          have fca13 := (h8).frozen 13
          have ca14 : wo.cell? ⟨g7 + 1, 14, none⟩ = some (.bool false) := (h8).cell 14
          have fca14 := (h8).frozen 14
          have ca15 : wo.cell? ⟨g7 + 1, 15, none⟩ = some (.slice none 0 0) := (h8).cell 15
          have fca15 := (h8).frozen 15
          have lca := (h8).lt
          have H7' := Lib.hid h7
          have H8' := Lib.hid h8
          clear h7 h8
          have HN1 := Lib.hid (HNM.out wo HB1.out)
          go_wp2_with fail
          ((with_reducible refine (HN1.out).mono ?_); rintro e w' ⟨rfl, hbw⟩)
          obtain ⟨m2, rfl⟩ := grow_mk hbw
          clear hbw
          have h7 := H7'.out.grow m2
          have h8 := H8'.out.grow m2
          have HB2v := Lib.hid (HB1.out.trans ((grow_below m2).mono HB1.out.size))
          clear ca0 fca0 ca1 fca1 ca2 fca2 ca3 fca3 ca4 fca4 ca5 fca5 ca6 fca6 ca7 fca7 ca8 fca8 ca9 fca9 ca10 fca10 ca11 fca11 ca12 fca12 ca13 fca13 ca14 fca14 ca15 fca15 lca cv0 fcv0 cv1 fcv1 cv2 fcv2 cv3 fcv3 cv4 fcv4 cv5 fcv5 cv6 fcv6 lcv HN1 HNM
          generalize grow wo m2 = wq at *
          have cv0 : wq.cell? ⟨g7, 0, none⟩ = some (.int .i64 tk) := (h7).cell 0
          have fcv0 := (h7).frozen 0
          have cv1 : wq.cell? ⟨g7, 1, none⟩ = some (.string ⟨tt.toArray⟩) := (h7).cell 1
          have fcv1 := (h7).frozen 1
          have cv2 : wq.cell? ⟨g7, 2, none⟩ = some (.int .i64 tn) := (h7).cell 2
          have fcv2 := (h7).frozen 2
          have cv3 : wq.cell? ⟨g7, 3, none⟩ = some (.int .i64 td) := (h7).cell 3
          have fcv3 := (h7).frozen 3
          have cv4 : wq.cell? ⟨g7, 4, none⟩ = some (.bool ti) := (h7).cell 4
          have fcv4 := (h7).frozen 4
          have cv5 : wq.cell? ⟨g7, 5, none⟩ = some (.bool tid) := (h7).cell 5
          have fcv5 := (h7).frozen 5
          have cv6 : wq.cell? ⟨g7, 6, none⟩ = some (.slice koa K kcap) := (h7).cell 6
          have fcv6 := (h7).frozen 6
          have lcv := (h7).lt
          have ca0 : wq.cell? ⟨g7 + 1, 0, none⟩ = some (.int .i64 0) := (h8).cell 0
          have fca0 := (h8).frozen 0
          have ca1 : wq.cell? ⟨g7 + 1, 1, none⟩ = some (.slice none 0 0) := (h8).cell 1
          have fca1 := (h8).frozen 1
          have ca2 : wq.cell? ⟨g7 + 1, 2, none⟩ = some (.int .i64 0) := (h8).cell 2
          have fca2 := (h8).frozen 2
          have ca3 : wq.cell? ⟨g7 + 1, 3, none⟩ = some (.int .i64 0) := (h8).cell 3
          have fca3 := (h8).frozen 3
          have ca4 : wq.cell? ⟨g7 + 1, 4, none⟩ = some (.string ⟨#[]⟩) := (h8).cell 4
          have fca4 := (h8).frozen 4
          have ca5 : wq.cell? ⟨g7 + 1, 5, none⟩ = some (.int .i64 0) := (h8).cell 5
          have fca5 := (h8).frozen 5
          have ca6 : wq.cell? ⟨g7 + 1, 6, none⟩ = some (.int .i64 0) := (h8).cell 6
          have fca6 := (h8).frozen 6
          have ca7 : wq.cell? ⟨g7 + 1, 7, none⟩ = some (.int .i64 0) := (h8).cell 7
          have fca7 := (h8).frozen 7
          have ca8 : wq.cell? ⟨g7 + 1, 8, none⟩ = some (.int .i64 0) := (h8).cell 8
          have fca8 := (h8).frozen 8
          have ca9 : wq.cell? ⟨g7 + 1, 9, none⟩ = some (.int .i64 0) := (h8).cell 9
          have fca9 := (h8).frozen 9
          have ca10 : wq.cell? ⟨g7 + 1, 10, none⟩ = some (.slice none 0 0) := (h8).cell 10
          have fca10 := (h8).frozen 10
          have ca11 : wq.cell? ⟨g7 + 1, 11, none⟩ = some (.string ⟨#[]⟩) := (h8).cell 11
          have fca11 := (h8).frozen 11
          have ca12 : wq.cell? ⟨g7 + 1, 12, none⟩ = some (.string ⟨#[]⟩) := (h8).cell 12
          have fca12 := (h8).frozen 12
          have ca13 : wq.cell? ⟨g7 + 1, 13, none⟩ = some (.bool false) := (h8).cell 13
          have fca13 := (h8).frozen 13
          have ca14 : wq.cell? ⟨g7 + 1, 14, none⟩ = some (.bool false) := (h8).cell 14
          have fca14 := (h8).frozen 14
          have ca15 : wq.cell? ⟨g7 + 1, 15, none⟩ = some (.slice none 0 0) := (h8).cell 15
          have fca15 := (h8).frozen 15
          have lca := (h8).lt
          have HBq := Lib.hid (HBR.out.trans (HB2v.out.mono HBR.out.size))
          go_upto_region 10 with fail
          have h8z := (((((((((((((((h8).put 0 (.int .i64 k)).put 1 (.slice none 0 0)).put 2 (.int .i64 a1)).put 3 (.int .i64 a2)).put 4 (.string s)).put 5 (.int .i64 0)).put 6 (.int .i64 0)).put 7 (.int .i64 0)).put 8 (.int .i64 0)).put 9 (.int .i64 0)).put 10 (.slice none 0 0)).put 11 (.string ⟨#[]⟩)).put 12 (.string ⟨#[]⟩)).put 13 (.bool false)).put 14 (.bool ok)
          simp only [List.setIfInBounds_toArray, List.set_cons_succ, List.set_cons_zero] at h8z
          have hgp := grownBy_puts [.int .i64 k, .slice none 0 0, .int .i64 a1, .int .i64 a2, .string s, .int .i64 0, .int .i64 0, .int .i64 0, .int .i64 0, .int .i64 0, .slice none 0 0, .string ⟨#[]⟩, .string ⟨#[]⟩, .bool false, .bool ok] wq (g7 + 1) 0
          have hbp := (HBq.out.trans ((below_put14 [.int .i64 k, .slice none 0 0, .int .i64 a1, .int .i64 a2, .string s, .int .i64 0, .int .i64 0, .int .i64 0, .int .i64 0, .int .i64 0, .slice none 0 0, .string ⟨#[]⟩, .string ⟨#[]⟩, .bool false, .bool ok] wq (g7 + 1) 0).mono (by rw [HG7.out]; exact Nat.le_succ g7)))
          have h7z := h7.keeps hgp (fun e => by have := Option.some.inj e; omega)
          have hgs := hgp.size
          simp only [puts, Nat.zero_add, Nat.reduceAdd] at hbp h7z hgs
          have HBz := Lib.hid hbp
          have hbwv := HB2v.out.size
          clear ca0 fca0 ca1 fca1 ca2 fca2 ca3 fca3 ca4 fca4 ca5 fca5 ca6 fca6 ca7 fca7 ca8 fca8 ca9 fca9 ca10 fca10 ca11 fca11 ca12 fca12 ca13 fca13 ca14 fca14 ca15 fca15 lca cv0 fcv0 cv1 fcv1 cv2 fcv2 cv3 fcv3 cv4 fcv4 cv5 fcv5 cv6 fcv6 lcv h7 h8 hgp hbp
          generalize World.setCell _ ⟨g7 + 1, 14, none⟩ _ = wz at *
          have cv0 : wz.cell? ⟨g7, 0, none⟩ = some (.int .i64 tk) := (h7z).cell 0
          have fcv0 := (h7z).frozen 0
          have cv1 : wz.cell? ⟨g7, 1, none⟩ = some (.string ⟨tt.toArray⟩) := (h7z).cell 1
          have fcv1 := (h7z).frozen 1
          have cv2 : wz.cell? ⟨g7, 2, none⟩ = some (.int .i64 tn) := (h7z).cell 2
          have fcv2 := (h7z).frozen 2
          have cv3 : wz.cell? ⟨g7, 3, none⟩ = some (.int .i64 td) := (h7z).cell 3
          have fcv3 := (h7z).frozen 3
          have cv4 : wz.cell? ⟨g7, 4, none⟩ = some (.bool ti) := (h7z).cell 4
          have fcv4 := (h7z).frozen 4
          have cv5 : wz.cell? ⟨g7, 5, none⟩ = some (.bool tid) := (h7z).cell 5
          have fcv5 := (h7z).frozen 5
          have cv6 : wz.cell? ⟨g7, 6, none⟩ = some (.slice koa K kcap) := (h7z).cell 6
          have fcv6 := (h7z).frozen 6
          have lcv := (h7z).lt
          have cz0 : wz.cell? ⟨g7 + 1, 0, none⟩ = some (.int .i64 k) := (h8z).cell 0
          have fcz0 := (h8z).frozen 0
          have cz1 : wz.cell? ⟨g7 + 1, 1, none⟩ = some (.slice none 0 0) := (h8z).cell 1
          have fcz1 := (h8z).frozen 1
          have cz2 : wz.cell? ⟨g7 + 1, 2, none⟩ = some (.int .i64 a1) := (h8z).cell 2
          have fcz2 := (h8z).frozen 2
          have cz3 : wz.cell? ⟨g7 + 1, 3, none⟩ = some (.int .i64 a2) := (h8z).cell 3
          have fcz3 := (h8z).frozen 3
          have cz4 : wz.cell? ⟨g7 + 1, 4, none⟩ = some (.string s) := (h8z).cell 4
          have fcz4 := (h8z).frozen 4
          have cz5 : wz.cell? ⟨g7 + 1, 5, none⟩ = some (.int .i64 0) := (h8z).cell 5
          have fcz5 := (h8z).frozen 5
          have cz6 : wz.cell? ⟨g7 + 1, 6, none⟩ = some (.int .i64 0) := (h8z).cell 6
          have fcz6 := (h8z).frozen 6
          have cz7 : wz.cell? ⟨g7 + 1, 7, none⟩ = some (.int .i64 0) := (h8z).cell 7
          have fcz7 := (h8z).frozen 7
          have cz8 : wz.cell? ⟨g7 + 1, 8, none⟩ = some (.int .i64 0) := (h8z).cell 8
          have fcz8 := (h8z).frozen 8
          have cz9 : wz.cell? ⟨g7 + 1, 9, none⟩ = some (.int .i64 0) := (h8z).cell 9
          have fcz9 := (h8z).frozen 9
          have cz10 : wz.cell? ⟨g7 + 1, 10, none⟩ = some (.slice none 0 0) := (h8z).cell 10
          have fcz10 := (h8z).frozen 10
          have cz11 : wz.cell? ⟨g7 + 1, 11, none⟩ = some (.string ⟨#[]⟩) := (h8z).cell 11
          have fcz11 := (h8z).frozen 11
          have cz12 : wz.cell? ⟨g7 + 1, 12, none⟩ = some (.string ⟨#[]⟩) := (h8z).cell 12
          have fcz12 := (h8z).frozen 12
          have cz13 : wz.cell? ⟨g7 + 1, 13, none⟩ = some (.bool false) := (h8z).cell 13
          have fcz13 := (h8z).frozen 13
          have cz14 : wz.cell? ⟨g7 + 1, 14, none⟩ = some (.bool ok) := (h8z).cell 14
          have fcz14 := (h8z).frozen 14
          have cz15 : wz.cell? ⟨g7 + 1, 15, none⟩ = some (.slice none 0 0) := (h8z).cell 15
          have fcz15 := (h8z).frozen 15
          have lcz := (h8z).lt
          cases ok with
          | true =>
            clear h8z h7z
            have HSX := Lib.hid (show Safe (· < wv.heap.size) wz (fun w => AnIn w 1 (.mk X none 0 0 0 [])) from fun w' _ _ => leaf_an w' 0 X)
            have HXF := Lib.hid (show ∀ h' t k, h + 1 = h' + 1 → SL[i]? = some (.mk t k) → (An.mk X none 0 0 0 []).L = (if opensV (.mk t k) then leafF true (.mk t k) else none) ∧ (t.kind = 21 → (An.mk X none 0 0 0 []).L = none → AnsFor true h' (solidV k) (An.mk X none 0 0 0 []).kids) from fun h' t k hh hs => by
              obtain ⟨rfl, rfl⟩ : (⟨tk, tt, (tn, td), ti, tid⟩ : Tk) = t ∧ kids.map Vl.c = k := by
                have := HKD.out.2.2.2.2.symm.trans hs
                simpa using this
              refine ⟨by rw [HBO.out, if_pos rfl]; exact HX0.out.2.symm, fun _ e => ?_⟩
              have e : X = none := e
              have := HXC.out.2
              rw [e] at this
              cases this)
            have hal : acells (.mk X none 0 0 0 []) = [.int .i64 k, .slice none 0 0, .int .i64 a1, .int .i64 a2, .string s, .int .i64 0, .int .i64 0, .int .i64 0, .int .i64 0, .int .i64 0, .slice none 0 0, .string ⟨#[]⟩, .string ⟨#[]⟩, .bool false, .bool true, .slice none 0 0] := by
              show lcells1 X ++ [.bool X.isSome, .slice none 0 0] = _
              rw [HXC.out.1, HXC.out.2]
              rfl
            have HKz := Lib.hid (hK.out.below (Nat.le_refl _) HBz.out)
            have HVL := Lib.hid hK.out.row.lt
            have hbz := HKz.out.bl.size
            have hszr := HBz.out.size
            have hszv := HBR.out.size
            clear hK
            go_wp2_with (at_builtin; refine wpList_add elAns rfl _ _ rfl rfl (HKz.out.row.alloc _) (by simp; omega) (Blk.new wz _ _) 1 rfl rfl (by simp [Value.oneCell']) (by omega) (by omega) ?_; intro gg cap3 w3 ho3 hg3 hat hvb; have H3 := Lib.hid (And.intro ho3 (And.intro hg3 hat)); clear ho3 hg3 hat hvb)
            go_roundg (Q - (i + 1))
            case measure => omega
            case rel =>
              obtain ⟨ho3, hg3, hat⟩ := H3.out
              exact ⟨i + 1, D ++ [.mk X none 0 0 0 []], _, by go_num, rfl, Lib.hid ((HKz.out.below (Nat.le_refl _) (below_box wz _)).add (B3 := wv.heap.size) (Nat.le_refl _) (by omega) (fun b e => by have := (HVL.out b e).2; omega) (HSX.out.alloc _) ho3 hal (show World.grownBy _ _ _ from hg3) (hat.imp id fun e => by omega)), Lib.hid (for_snoc HDi.out hF.out HXF.out), by simp [HDi.out], hi, Nat.le_refl _⟩
          | false =>
            have hXn : X = none := HX0.out.1 rfl
            by_cases h21 : tk = 21
            · subst h21
              have har := HR.out h rfl kids koa kcap kb ko wz (HKD.out.1.below HBz.out) HKD.out.2.2.1
              rw [HKD.out.2.2.2.1] at har
              have HAR := Lib.hid har
              clear har
              go_wp2_with fail
              ((with_reducible refine HAR.out.mono ?_); rintro e wy ⟨⟨am, zoa, zcap, zab, zha, rfl, hsm, hfm⟩, hby⟩)
              obtain ⟨ZN, hZN⟩ : ∃ ZN, am.length = ZN := ⟨_, rfl⟩
              have hwy := hby.size
              have h8y := h8z.below hby h8z.lt
              have hbzy := HBz.out.trans (hby.mono HBz.out.size)
              have HFM := Lib.hid (hfm HKD.out.2.1)
              have h8w := h8y.put 15 (.slice zoa ZN zcap)
              simp only [List.setIfInBounds_toArray, List.set_cons_succ, List.set_cons_zero] at h8w
              have hbw := hbzy.setCell (p := ⟨g7 + 1, 15, none⟩) (by rw [HG7.out]; exact Nat.le_succ g7) (.slice zoa ZN zcap)
              have hsw := (hsm.set (p := ⟨g7 + 1, 15, none⟩) h8z.lt (.slice zoa ZN zcap)).anti (A' := (· < wv.heap.size)) fun b hb _ => Nat.lt_of_lt_of_le hb (by have := HBz.out.size; omega)
              have HSY := Lib.hid hsw
              have HBY := Lib.hid hbw
              have HZN := Lib.hid hZN
              have H8y := Lib.hid h8y
              simp only [hZN]
              clear cz0 fcz0 cz1 fcz1 cz2 fcz2 cz3 fcz3 cz4 fcz4 cz5 fcz5 cz6 fcz6 cz7 fcz7 cz8 fcz8 cz9 fcz9 cz10 fcz10 cz11 fcz11 cz12 fcz12 cz13 fcz13 cz14 fcz14 cz15 fcz15 cv0 fcv0 cv1 fcv1 cv2 fcv2 cv3 fcv3 cv4 fcv4 cv5 fcv5 cv6 fcv6 lcv hsm hfm hby hbw hsw hbzy h7z h8z hZN HAR
              have cy0 : wy.cell? ⟨g7 + 1, 0, none⟩ = some (.int .i64 k) := (h8y).cell 0
              have fcy0 := (h8y).frozen 0
              have cy1 : wy.cell? ⟨g7 + 1, 1, none⟩ = some (.slice none 0 0) := (h8y).cell 1
              have fcy1 := (h8y).frozen 1
              have cy2 : wy.cell? ⟨g7 + 1, 2, none⟩ = some (.int .i64 a1) := (h8y).cell 2
              have fcy2 := (h8y).frozen 2
              have cy3 : wy.cell? ⟨g7 + 1, 3, none⟩ = some (.int .i64 a2) := (h8y).cell 3
              have fcy3 := (h8y).frozen 3
              have cy4 : wy.cell? ⟨g7 + 1, 4, none⟩ = some (.string s) := (h8y).cell 4
              have fcy4 := (h8y).frozen 4
              have cy5 : wy.cell? ⟨g7 + 1, 5, none⟩ = some (.int .i64 0) := (h8y).cell 5
              have fcy5 := (h8y).frozen 5
              have cy6 : wy.cell? ⟨g7 + 1, 6, none⟩ = some (.int .i64 0) := (h8y).cell 6
              have fcy6 := (h8y).frozen 6
              have cy7 : wy.cell? ⟨g7 + 1, 7, none⟩ = some (.int .i64 0) := (h8y).cell 7
              have fcy7 := (h8y).frozen 7
              have cy8 : wy.cell? ⟨g7 + 1, 8, none⟩ = some (.int .i64 0) := (h8y).cell 8
              have fcy8 := (h8y).frozen 8
              have cy9 : wy.cell? ⟨g7 + 1, 9, none⟩ = some (.int .i64 0) := (h8y).cell 9
              have fcy9 := (h8y).frozen 9
              have cy10 : wy.cell? ⟨g7 + 1, 10, none⟩ = some (.slice none 0 0) := (h8y).cell 10
              have fcy10 := (h8y).frozen 10
              have cy11 : wy.cell? ⟨g7 + 1, 11, none⟩ = some (.string ⟨#[]⟩) := (h8y).cell 11
              have fcy11 := (h8y).frozen 11
              have cy12 : wy.cell? ⟨g7 + 1, 12, none⟩ = some (.string ⟨#[]⟩) := (h8y).cell 12
              have fcy12 := (h8y).frozen 12
              have cy13 : wy.cell? ⟨g7 + 1, 13, none⟩ = some (.bool false) := (h8y).cell 13
              have fcy13 := (h8y).frozen 13
              have cy14 : wy.cell? ⟨g7 + 1, 14, none⟩ = some (.bool false) := (h8y).cell 14
              have fcy14 := (h8y).frozen 14
              have cy15 : wy.cell? ⟨g7 + 1, 15, none⟩ = some (.slice none 0 0) := (h8y).cell 15
              have fcy15 := (h8y).frozen 15
              have lcy := (h8y).lt
              clear h8y
              go_upto_region 12 with fail
              clear cy0 fcy0 cy1 fcy1 cy2 fcy2 cy3 fcy3 cy4 fcy4 cy5 fcy5 cy6 fcy6 cy7 fcy7 cy8 fcy8 cy9 fcy9 cy10 fcy10 cy11 fcy11 cy12 fcy12 cy13 fcy13 cy14 fcy14 cy15 fcy15 lcy
              have hwz2 : wv.heap.size ≤ (wy.setCell ⟨g7 + 1, 15, none⟩ (.slice zoa ZN zcap)).heap.size := by simp; omega
              generalize World.setCell _ ⟨g7 + 1, 15, none⟩ _ = wx at *
              have cz0 : wx.cell? ⟨g7 + 1, 0, none⟩ = some (.int .i64 k) := (h8w).cell 0
              have fcz0 := (h8w).frozen 0
              have cz1 : wx.cell? ⟨g7 + 1, 1, none⟩ = some (.slice none 0 0) := (h8w).cell 1
              have fcz1 := (h8w).frozen 1
              have cz2 : wx.cell? ⟨g7 + 1, 2, none⟩ = some (.int .i64 a1) := (h8w).cell 2
              have fcz2 := (h8w).frozen 2
              have cz3 : wx.cell? ⟨g7 + 1, 3, none⟩ = some (.int .i64 a2) := (h8w).cell 3
              have fcz3 := (h8w).frozen 3
              have cz4 : wx.cell? ⟨g7 + 1, 4, none⟩ = some (.string s) := (h8w).cell 4
              have fcz4 := (h8w).frozen 4
              have cz5 : wx.cell? ⟨g7 + 1, 5, none⟩ = some (.int .i64 0) := (h8w).cell 5
              have fcz5 := (h8w).frozen 5
              have cz6 : wx.cell? ⟨g7 + 1, 6, none⟩ = some (.int .i64 0) := (h8w).cell 6
              have fcz6 := (h8w).frozen 6
              have cz7 : wx.cell? ⟨g7 + 1, 7, none⟩ = some (.int .i64 0) := (h8w).cell 7
              have fcz7 := (h8w).frozen 7
              have cz8 : wx.cell? ⟨g7 + 1, 8, none⟩ = some (.int .i64 0) := (h8w).cell 8
              have fcz8 := (h8w).frozen 8
              have cz9 : wx.cell? ⟨g7 + 1, 9, none⟩ = some (.int .i64 0) := (h8w).cell 9
              have fcz9 := (h8w).frozen 9
              have cz10 : wx.cell? ⟨g7 + 1, 10, none⟩ = some (.slice none 0 0) := (h8w).cell 10
              have fcz10 := (h8w).frozen 10
              have cz11 : wx.cell? ⟨g7 + 1, 11, none⟩ = some (.string ⟨#[]⟩) := (h8w).cell 11
              have fcz11 := (h8w).frozen 11
              have cz12 : wx.cell? ⟨g7 + 1, 12, none⟩ = some (.string ⟨#[]⟩) := (h8w).cell 12
              have fcz12 := (h8w).frozen 12
              have cz13 : wx.cell? ⟨g7 + 1, 13, none⟩ = some (.bool false) := (h8w).cell 13
              have fcz13 := (h8w).frozen 13
              have cz14 : wx.cell? ⟨g7 + 1, 14, none⟩ = some (.bool false) := (h8w).cell 14
              have fcz14 := (h8w).frozen 14
              have cz15 : wx.cell? ⟨g7 + 1, 15, none⟩ = some (.slice zoa ZN zcap) := (h8w).cell 15
              have fcz15 := (h8w).frozen 15
              have lcz := (h8w).lt
              clear h8w HBz
              have HBz := HBY
              have hal : acells (.mk X zoa zab 0 zcap am) = [.int .i64 k, .slice none 0 0, .int .i64 a1, .int .i64 a2, .string s, .int .i64 0, .int .i64 0, .int .i64 0, .int .i64 0, .int .i64 0, .slice none 0 0, .string ⟨#[]⟩, .string ⟨#[]⟩, .bool false, .bool false, .slice zoa ZN zcap] := by
                show lcells1 X ++ [.bool X.isSome, .slice zoa am.length zcap] = _
                rw [HXC.out.1, HXC.out.2, HZN.out]
                rfl
              have HSX := Lib.hid (show Safe (· < wv.heap.size) wx (fun w => AnIn w (zha + 1) (.mk X zoa zab 0 zcap am)) from HSY.out.mono fun w' hw => ⟨hw.sl, hw.each⟩)
              have HXF := Lib.hid (show ∀ h' t k, h + 1 = h' + 1 → SL[i]? = some (.mk t k) → (An.mk X zoa zab 0 zcap am).L = (if opensV (.mk t k) then leafF true (.mk t k) else none) ∧ (t.kind = 21 → (An.mk X zoa zab 0 zcap am).L = none → AnsFor true h' (solidV k) (An.mk X zoa zab 0 zcap am).kids) from fun h' t k hh hs => by
                obtain ⟨rfl, rfl⟩ : (⟨21, tt, (tn, td), ti, tid⟩ : Tk) = t ∧ kids.map Vl.c = k := by
                  have := HKD.out.2.2.2.2.symm.trans hs
                  simpa using this
                refine ⟨by rw [HBO.out, if_pos rfl]; exact HX0.out.2.symm, fun _ _ => ?_⟩
                obtain rfl : h = h' := by omega
                exact HFM.out)
              have HKz := Lib.hid (hK.out.below (Nat.le_refl _) HBz.out)
              have HVL := Lib.hid hK.out.row.lt
              have hbz := HKz.out.bl.size
              have hszr := HBz.out.size
              have hszv := HBR.out.size
              clear hK
              go_wp2_with (at_builtin; refine wpList_add elAns rfl _ _ rfl rfl (HKz.out.row.alloc _) (by simp; omega) (Blk.new wx _ _) 1 rfl rfl (by simp [Value.oneCell']) (by omega) (by omega) ?_; intro gg cap3 w3 ho3 hg3 hat hvb; have H3 := Lib.hid (And.intro ho3 (And.intro hg3 hat)); clear ho3 hg3 hat hvb)
              go_roundg (Q - (i + 1))
              case measure => omega
              case rel =>
                obtain ⟨ho3, hg3, hat⟩ := H3.out
                exact ⟨i + 1, D ++ [.mk X zoa zab 0 zcap am], _, by go_num, rfl, Lib.hid ((HKz.out.below (Nat.le_refl _) (below_box wx _)).add (B3 := wv.heap.size) (Nat.le_refl _) (by omega) (fun b e => by have := (HVL.out b e).2; omega) (HSX.out.alloc _) ho3 hal (show World.grownBy _ _ _ from hg3) (hat.imp id fun e => by omega)), Lib.hid (for_snoc HDi.out hF.out HXF.out), by simp [HDi.out], hi, Nat.le_refl _⟩
            · have gk : (tk == 21) = false := by simpa using h21
              clear h8z h7z
              have HSX := Lib.hid (show Safe (· < wv.heap.size) wz (fun w => AnIn w 1 (.mk X none 0 0 0 [])) from fun w' _ _ => leaf_an w' 0 X)
              have HXF := Lib.hid (show ∀ h' t k, h + 1 = h' + 1 → SL[i]? = some (.mk t k) → (An.mk X none 0 0 0 []).L = (if opensV (.mk t k) then leafF true (.mk t k) else none) ∧ (t.kind = 21 → (An.mk X none 0 0 0 []).L = none → AnsFor true h' (solidV k) (An.mk X none 0 0 0 []).kids) from fun h' t k hh hs => by
                obtain ⟨rfl, rfl⟩ : (⟨tk, tt, (tn, td), ti, tid⟩ : Tk) = t ∧ kids.map Vl.c = k := by
                  have := HKD.out.2.2.2.2.symm.trans hs
                  simpa using this
                exact ⟨by rw [HBO.out, if_pos rfl]; exact HX0.out.2.symm, fun e => absurd e h21⟩)
              have hal : acells (.mk X none 0 0 0 []) = [.int .i64 k, .slice none 0 0, .int .i64 a1, .int .i64 a2, .string s, .int .i64 0, .int .i64 0, .int .i64 0, .int .i64 0, .int .i64 0, .slice none 0 0, .string ⟨#[]⟩, .string ⟨#[]⟩, .bool false, .bool false, .slice none 0 0] := by
                show lcells1 X ++ [.bool X.isSome, .slice none 0 0] = _
                rw [HXC.out.1, HXC.out.2]
                rfl
              have HKz := Lib.hid (hK.out.below (Nat.le_refl _) HBz.out)
              have HVL := Lib.hid hK.out.row.lt
              have hbz := HKz.out.bl.size
              have hszr := HBz.out.size
              have hszv := HBR.out.size
              clear hK
              go_wp2_with (at_builtin; refine wpList_add elAns rfl _ _ rfl rfl (HKz.out.row.alloc _) (by simp; omega) (Blk.new wz _ _) 1 rfl rfl (by simp [Value.oneCell']) (by omega) (by omega) ?_; intro gg cap3 w3 ho3 hg3 hat hvb; have H3 := Lib.hid (And.intro ho3 (And.intro hg3 hat)); clear ho3 hg3 hat hvb)
              go_roundg (Q - (i + 1))
              case measure => omega
              case rel =>
                obtain ⟨ho3, hg3, hat⟩ := H3.out
                exact ⟨i + 1, D ++ [.mk X none 0 0 0 []], _, by go_num, rfl, Lib.hid ((HKz.out.below (Nat.le_refl _) (below_box wz _)).add (B3 := wv.heap.size) (Nat.le_refl _) (by omega) (fun b e => by have := (HVL.out b e).2; omega) (HSX.out.alloc _) ho3 hal (show World.grownBy _ _ _ from hg3) (hat.imp id fun e => by omega)), Lib.hid (for_snoc HDi.out hF.out HXF.out), by simp [HDi.out], hi, Nat.le_refl _⟩
      · obtain rfl : i = Q := by omega
        have gi : decide ((i : Int) < (i : Int)) = false := by simp
        have gin : decide (i < i) = false := by simp
        obtain ⟨hh, hS⟩ := hK.out.safe
        obtain ⟨voa, vcap, vg, rfl, hsl, hpos⟩ := sl_of_own hK.out.row
        have HF2 := Lib.hid (for_done (by rw [← HP.out.2.1, List.length_map, HP.out.2.2.2.1]; exact Nat.le_refl _) hF.out)
        have HSA := Lib.hid (show Safe (· < w.heap.size) wr (fun w => AnsIn w hh voa vcap vg 0 D) from fun w' h1 h2 => ⟨(hsl.safe (A := (· < w.heap.size)) (fun hp => by have := hpos hp; have := HB2.out.size; omega)) w' h1 h2, fun j y hy => (hS.anti (A' := (· < w.heap.size)) fun b hb _ => Or.inl (by have := HB2.out.size; omega)) w' h1 h2 y (List.mem_of_getElem? hy)⟩)
        have hbF := HB2.out.trans (hK.out.bl.mono HB2.out.size)
        have HBF := Lib.hid hbF
        obtain ⟨DL, hDL⟩ : ∃ DL, D.length = DL := ⟨_, rfl⟩
        have HDL := Lib.hid hDL
        clear hS hsl hpos hbF hK hF HDi
        simp only [hDL]
        clear hDL
        go_wp2_with fail
        go_ret
        exact ⟨⟨D, voa, vcap, vg, hh, by rw [HDL.out]; rfl, HSA.out, fun _ => by rw [HP.out.2.2.2.2]; exact HF2.out⟩, HBF.out⟩

theorem answers_all : ∀ h, AnswersAt h
  | 0 => answers_step 0 fun h' e => absurd e (by omega)
  | h + 1 => answers_step (h + 1) fun h' e => by
      obtain rfl : h = h' := by omega
      exact answers_all h

end Go.Proofs.Ytgjhaanpkfheeaa
