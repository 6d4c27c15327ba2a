/- Of my texts: PartR. -/
import Derived.Test.YtgjhaanpkfheeaaM32
namespace Go.Proofs.Ytgjhaanpkfheeaa
set_option linter.unusedVariables false
set_option linter.unusedSimpArgs false
open Go.RowKit

theorem isQd.put14 {B : Nat} {Q : Qt} {v : Value} {w : World} {g : Nat} (h : isQd (· < B) Q v w) (hg : g < B) (v0 v1 v2 v3 v4 v5 v6 v7 v8 v9 v10 v11 v12 v13 : Value) : isQd (· < B) Q v (((((((((((((((w).setCell ⟨g, 0, none⟩ v0).setCell ⟨g, 1, none⟩ v1).setCell ⟨g, 2, none⟩ v2).setCell ⟨g, 3, none⟩ v3).setCell ⟨g, 4, none⟩ v4).setCell ⟨g, 5, none⟩ v5).setCell ⟨g, 6, none⟩ v6).setCell ⟨g, 7, none⟩ v7).setCell ⟨g, 8, none⟩ v8).setCell ⟨g, 9, none⟩ v9).setCell ⟨g, 10, none⟩ v10).setCell ⟨g, 11, none⟩ v11).setCell ⟨g, 12, none⟩ v12).setCell ⟨g, 13, none⟩ v13) := by
  have hz := h.grown (grownBy_puts [v0, v1, v2, v3, v4, v5, v6, v7, v8, v9, v10, v11, v12, v13] w g 0) (fun k e _ => by have := Option.some.inj e; omega)
  simp only [puts, Nat.zero_add, Nat.reduceAdd] at hz
  exact hz

/-- values without blanks, read as a condition by the reference -/
def RParseAt (bq : Bool) (h : Nat) : Prop := ∀ (l : List Vl) (oa : Option Addr) (cap bb o : Nat) (am : List An) (aoa : Option Addr) (acap ab ao ha : Nat) (w : World), VsIn w h oa cap bb o l → szV (l.map Vl.c) ≤ 1073741824 → AnsIn w ha aoa acap ab ao am → AnsFor bq h (l.map Vl.c) am →
  Calls Try.prog 92 #[.slice oa l.length cap, .slice aoa am.length acap] w fun e w' => ∃ (r : Value) (ok : Bool), e = .returned (.tuple #[r, .bool ok]) ∧ ok = (parseQ (pR bq h) (l.map Vl.c)).isSome ∧ isQd (· < w.heap.size) ((parseQ (pR bq h) (l.map Vl.c)).getD zeroQt) r w' ∧ Below w.heap.size w w'
def RPartAt (bq : Bool) (h : Nat) : Prop := ∀ (x : Vl) (a : An) (ha : Nat) (w : World), VlIn w h x → AnIn w ha a → szV1 x.c ≤ 1073741824 → opensV x.c = true → (∀ t k, x.c = .mk t k → a.L = leafF bq x.c ∧ (t.kind = 21 → a.L = none → AnsFor bq (h - 1) (solidV k) a.kids)) →
  Calls Try.prog 114 #[vv x, av a] w fun e w' => (∃ r, e = .returned r ∧ isQd (· < w.heap.size) (pR bq h x.c) r w') ∧ Below w.heap.size w w'

theorem pR_leaf {bq : Bool} {h : Nat} {v : Vt} {L : Int × Int × List UInt8} (hl : leafF bq v = some L) : pR bq h v = leafQ L := by
  unfold pR partQ
  rw [hl]
theorem pR_par {bq : Bool} {h : Nat} {tt : List UInt8} {n : Int × Int} {ti tid : Bool} {k : List Vt} (hl : leafF bq (.mk ⟨21, tt, n, ti, tid⟩ k) = none) : pR bq (h + 1) (.mk ⟨21, tt, n, ti, tid⟩ k) = (wholeQ parseQ (leafF bq) h k).getD (leafQ zeroQ) := by
  unfold pR partQ
  rw [hl]
  rfl
theorem pR_fun {bq : Bool} {h : Nat} {tk : Int} {tt : List UInt8} {n : Int × Int} {ti tid : Bool} {k : List Vt} (hk : tk ≠ 21) (hl : leafF bq (.mk ⟨tk, tt, n, ti, tid⟩ k) = none) : pR bq (h + 1) (.mk ⟨tk, tt, n, ti, tid⟩ k) = leafQ zeroQ := by
  unfold pR partQ
  rw [hl]
  show (if tk = 21 then _ else _) = _
  rw [if_neg hk]

set_option maxRecDepth 20000 in
set_option maxHeartbeats 16000000 in
theorem rpart_step (bq : Bool) (h : Nat) (hW : ∀ h', h = h' + 1 → RParseAt bq h') : RPartAt bq h := by
  intro x a ha w hx hax hz hop hfor
  obtain ⟨h, rfl⟩ : ∃ h', h = h' + 1 := by
    cases h with
    | zero => exact hx.elim
    | succ h => exact ⟨h, rfl⟩
  obtain ⟨ha, rfl⟩ : ∃ h', ha = h' + 1 := by
    cases ha with
    | zero => exact hax.elim
    | succ h => exact ⟨h, rfl⟩
  have hR := hW h rfl
  obtain ⟨t, koa, kb, ko, kcap, kids⟩ := x
  obtain ⟨AL, aoa, ab, ao, acap, akids⟩ := a
  obtain ⟨tk, tt, ⟨tn, td⟩, ti, tid⟩ := t
  rw [Vl.c_mk] at hz hop hfor ⊢
  obtain ⟨hf1, hf2⟩ := hfor _ _ rfl
  have hf1 : AL = leafF bq (.mk ⟨tk, tt, (tn, td), ti, tid⟩ (kids.map Vl.c)) := hf1
  have hf2 : tk = 21 → AL = none → AnsFor bq h (solidV (kids.map Vl.c)) akids := hf2
  obtain ⟨K, hK⟩ : ∃ K, kids.length = K := ⟨_, rfl⟩
  obtain ⟨A, hA⟩ : ∃ A, akids.length = A := ⟨_, rfl⟩
  have hvv : vv (.mk ⟨tk, tt, (tn, td), ti, tid⟩ koa kb ko kcap kids) = .agg #[.int .i64 tk, .string ⟨tt.toArray⟩, .int .i64 tn, .int .i64 td, .bool ti, .bool tid, .slice koa K kcap] := by rw [← hK]; rfl
  obtain ⟨k, a1, a2, s, ok, hac, hok1, hok0⟩ : ∃ (k a1 a2 : Int) (s : ByteArray) (ok : Bool), av (.mk AL aoa ab ao acap akids) = .agg #[.int .i64 k, .slice none 0 0, .int .i64 a1, .int .i64 a2, .string s, .int .i64 0, .int .i64 0, .int .i64 0, .int .i64 0, .int .i64 0, .slice none 0 0, .string ⟨#[]⟩, .string ⟨#[]⟩, .bool false, .bool ok, .slice aoa A acap] ∧ (ok = true → ∃ L, AL = some L ∧ k = 4 ∧ L = (a1, a2, s.data.toList)) ∧ (ok = false → AL = none) := by
    rw [← hA]
    cases AL with
    | none => exact ⟨0, 0, 0, ⟨#[]⟩, false, rfl, fun h => (by cases h), fun _ => rfl⟩
    | some L => exact ⟨4, L.1, L.2.1, ⟨L.2.2.toArray⟩, true, rfl, fun _ => ⟨L, rfl, rfl, rfl⟩, fun h => by cases h⟩
  rw [hvv, hac]
  have hzk : szV (kids.map Vl.c) ≤ 1073741824 := by rw [szV1] at hz; omega
  have hb1 := below_box w (.cells #[.int .i64 tk, .string ⟨tt.toArray⟩, .int .i64 tn, .int .i64 td, .bool ti, .bool tid, .slice koa K kcap] 74)
  have hb2 := hb1.alloc (by simp) (.cells #[.int .i64 k, .slice none 0 0, .int .i64 a1, .int .i64 a2, .string s, .int .i64 0, .int .i64 0, .int .i64 0, .int .i64 0, .int .i64 0, .slice none 0 0, .string ⟨#[]⟩, .string ⟨#[]⟩, .bool false, .bool ok, .slice aoa A acap] 103)
  have hb3 := hb2.alloc (by simp; omega) (.cells #[.int .i64 0, .slice none 0 0, .int .i64 0, .int .i64 0, .string ⟨#[]⟩, .int .i64 0, .int .i64 0, .int .i64 0, .int .i64 0, .int .i64 0, .slice none 0 0, .string ⟨#[]⟩, .string ⟨#[]⟩, .bool false] 49)
  have h1 := ((Blk.new w 74 #[.int .i64 tk, .string ⟨tt.toArray⟩, .int .i64 tn, .int .i64 td, .bool ti, .bool tid, .slice koa K kcap]).old (.cells #[.int .i64 k, .slice none 0 0, .int .i64 a1, .int .i64 a2, .string s, .int .i64 0, .int .i64 0, .int .i64 0, .int .i64 0, .int .i64 0, .slice none 0 0, .string ⟨#[]⟩, .string ⟨#[]⟩, .bool false, .bool ok, .slice aoa A acap] 103)).old (.cells #[.int .i64 0, .slice none 0 0, .int .i64 0, .int .i64 0, .string ⟨#[]⟩, .int .i64 0, .int .i64 0, .int .i64 0, .int .i64 0, .int .i64 0, .slice none 0 0, .string ⟨#[]⟩, .string ⟨#[]⟩, .bool false] 49)
  have h2 := (Blk.new (w.alloc (.cells #[.int .i64 tk, .string ⟨tt.toArray⟩, .int .i64 tn, .int .i64 td, .bool ti, .bool tid, .slice koa K kcap] 74)) 103 #[.int .i64 k, .slice none 0 0, .int .i64 a1, .int .i64 a2, .string s, .int .i64 0, .int .i64 0, .int .i64 0, .int .i64 0, .int .i64 0, .slice none 0 0, .string ⟨#[]⟩, .string ⟨#[]⟩, .bool false, .bool ok, .slice aoa A acap]).old (.cells #[.int .i64 0, .slice none 0 0, .int .i64 0, .int .i64 0, .string ⟨#[]⟩, .int .i64 0, .int .i64 0, .int .i64 0, .int .i64 0, .int .i64 0, .slice none 0 0, .string ⟨#[]⟩, .string ⟨#[]⟩, .bool false] 49)
  have h3 := Blk.new ((w.alloc (.cells #[.int .i64 tk, .string ⟨tt.toArray⟩, .int .i64 tn, .int .i64 td, .bool ti, .bool tid, .slice koa K kcap] 74)).alloc (.cells #[.int .i64 k, .slice none 0 0, .int .i64 a1, .int .i64 a2, .string s, .int .i64 0, .int .i64 0, .int .i64 0, .int .i64 0, .int .i64 0, .slice none 0 0, .string ⟨#[]⟩, .string ⟨#[]⟩, .bool false, .bool ok, .slice aoa A acap] 103)) 49 #[.int .i64 0, .slice none 0 0, .int .i64 0, .int .i64 0, .string ⟨#[]⟩, .int .i64 0, .int .i64 0, .int .i64 0, .int .i64 0, .int .i64 0, .slice none 0 0, .string ⟨#[]⟩, .string ⟨#[]⟩, .bool false]
  have hs1 : (w.alloc (.cells #[.int .i64 tk, .string ⟨tt.toArray⟩, .int .i64 tn, .int .i64 td, .bool ti, .bool tid, .slice koa K kcap] 74)).heap.size = w.heap.size + 1 := by simp
  have hs2 : ((w.alloc (.cells #[.int .i64 tk, .string ⟨tt.toArray⟩, .int .i64 tn, .int .i64 td, .bool ti, .bool tid, .slice koa K kcap] 74)).alloc (.cells #[.int .i64 k, .slice none 0 0, .int .i64 a1, .int .i64 a2, .string s, .int .i64 0, .int .i64 0, .int .i64 0, .int .i64 0, .int .i64 0, .slice none 0 0, .string ⟨#[]⟩, .string ⟨#[]⟩, .bool false, .bool ok, .slice aoa A acap] 103)).heap.size = w.heap.size + 2 := by simp
  rw [hs1] at h2
  rw [hs2] at h3
  have H := Lib.hid (And.intro h1 (And.intro h2 (And.intro h3 hb3)))
  have HK := Lib.hid (And.intro (hx.kids.below hb3) (And.intro (show AnsIn _ ha aoa acap ab ao akids from ⟨hax.1.below hb3, fun i y hi => (hax.2 i y hi).below _ hb3⟩) (And.intro hzk (And.intro hf2 (And.intro hK hA)))))
  have HF := Lib.hid (And.intro hf1 (And.intro hok1 hok0))
  have HR := Lib.hid hR
  have HO := Lib.hid hop
  clear h1 h2 h3 hb1 hb2 hb3 hs1 hs2 hx hax hz hzk hf1 hf2 hfor hok1 hok0 hvv hac hK hA hR hW hop
  go_enter Try.func114, Try.ntmps114
  go_upto_region 1 with fail
  obtain ⟨g, hg⟩ : ∃ g, w.heap.size = g := ⟨_, rfl⟩
  rw [hg] at H
  simp only [hg]
  have HG := Lib.hid hg
  clear hg
  generalize World.alloc (World.alloc (World.alloc w _) _) _ = wa at *
  obtain ⟨h1, h2, h3, hb⟩ := H.out
  have ca0 : wa.cell? ⟨g, 0, none⟩ = some (.int .i64 tk) := (h1).cell 0
  have fca0 := (h1).frozen 0
  have ca1 : wa.cell? ⟨g, 1, none⟩ = some (.string ⟨tt.toArray⟩) := (h1).cell 1
  have fca1 := (h1).frozen 1
  have ca2 : wa.cell? ⟨g, 2, none⟩ = some (.int .i64 tn) := (h1).cell 2
  have fca2 := (h1).frozen 2
  have ca3 : wa.cell? ⟨g, 3, none⟩ = some (.int .i64 td) := (h1).cell 3
  have fca3 := (h1).frozen 3
  have ca4 : wa.cell? ⟨g, 4, none⟩ = some (.bool ti) := (h1).cell 4
  have fca4 := (h1).frozen 4
  have ca5 : wa.cell? ⟨g, 5, none⟩ = some (.bool tid) := (h1).cell 5
  have fca5 := (h1).frozen 5
  have ca6 : wa.cell? ⟨g, 6, none⟩ = some (.slice koa K kcap) := (h1).cell 6
  have fca6 := (h1).frozen 6
  have lca := (h1).lt
  have cb0 : wa.cell? ⟨g + 1, 0, none⟩ = some (.int .i64 k) := (h2).cell 0
  have fcb0 := (h2).frozen 0
  have cb1 : wa.cell? ⟨g + 1, 1, none⟩ = some (.slice none 0 0) := (h2).cell 1
  have fcb1 := (h2).frozen 1
  have cb2 : wa.cell? ⟨g + 1, 2, none⟩ = some (.int .i64 a1) := (h2).cell 2
  have fcb2 := (h2).frozen 2
  have cb3 : wa.cell? ⟨g + 1, 3, none⟩ = some (.int .i64 a2) := (h2).cell 3
  have fcb3 := (h2).frozen 3
  have cb4 : wa.cell? ⟨g + 1, 4, none⟩ = some (.string s) := (h2).cell 4
  have fcb4 := (h2).frozen 4
  have cb5 : wa.cell? ⟨g + 1, 5, none⟩ = some (.int .i64 0) := (h2).cell 5
  have fcb5 := (h2).frozen 5
  have cb6 : wa.cell? ⟨g + 1, 6, none⟩ = some (.int .i64 0) := (h2).cell 6
  have fcb6 := (h2).frozen 6
  have cb7 : wa.cell? ⟨g + 1, 7, none⟩ = some (.int .i64 0) := (h2).cell 7
  have fcb7 := (h2).frozen 7
  have cb8 : wa.cell? ⟨g + 1, 8, none⟩ = some (.int .i64 0) := (h2).cell 8
  have fcb8 := (h2).frozen 8
  have cb9 : wa.cell? ⟨g + 1, 9, none⟩ = some (.int .i64 0) := (h2).cell 9
  have fcb9 := (h2).frozen 9
  have cb10 : wa.cell? ⟨g + 1, 10, none⟩ = some (.slice none 0 0) := (h2).cell 10
  have fcb10 := (h2).frozen 10
  have cb11 : wa.cell? ⟨g + 1, 11, none⟩ = some (.string ⟨#[]⟩) := (h2).cell 11
  have fcb11 := (h2).frozen 11
  have cb12 : wa.cell? ⟨g + 1, 12, none⟩ = some (.string ⟨#[]⟩) := (h2).cell 12
  have fcb12 := (h2).frozen 12
  have cb13 : wa.cell? ⟨g + 1, 13, none⟩ = some (.bool false) := (h2).cell 13
  have fcb13 := (h2).frozen 13
  have cb14 : wa.cell? ⟨g + 1, 14, none⟩ = some (.bool ok) := (h2).cell 14
  have fcb14 := (h2).frozen 14
  have cb15 : wa.cell? ⟨g + 1, 15, none⟩ = some (.slice aoa A acap) := (h2).cell 15
  have fcb15 := (h2).frozen 15
  have lcb := (h2).lt
  have cc0 : wa.cell? ⟨g + 2, 0, none⟩ = some (.int .i64 0) := (h3).cell 0
  have fcc0 := (h3).frozen 0
  have cc1 : wa.cell? ⟨g + 2, 1, none⟩ = some (.slice none 0 0) := (h3).cell 1
  have fcc1 := (h3).frozen 1
  have cc2 : wa.cell? ⟨g + 2, 2, none⟩ = some (.int .i64 0) := (h3).cell 2
  have fcc2 := (h3).frozen 2
  have cc3 : wa.cell? ⟨g + 2, 3, none⟩ = some (.int .i64 0) := (h3).cell 3
  have fcc3 := (h3).frozen 3
  have cc4 : wa.cell? ⟨g + 2, 4, none⟩ = some (.string ⟨#[]⟩) := (h3).cell 4
  have fcc4 := (h3).frozen 4
  have cc5 : wa.cell? ⟨g + 2, 5, none⟩ = some (.int .i64 0) := (h3).cell 5
  have fcc5 := (h3).frozen 5
  have cc6 : wa.cell? ⟨g + 2, 6, none⟩ = some (.int .i64 0) := (h3).cell 6
  have fcc6 := (h3).frozen 6
  have cc7 : wa.cell? ⟨g + 2, 7, none⟩ = some (.int .i64 0) := (h3).cell 7
  have fcc7 := (h3).frozen 7
  have cc8 : wa.cell? ⟨g + 2, 8, none⟩ = some (.int .i64 0) := (h3).cell 8
  have fcc8 := (h3).frozen 8
  have cc9 : wa.cell? ⟨g + 2, 9, none⟩ = some (.int .i64 0) := (h3).cell 9
  have fcc9 := (h3).frozen 9
  have cc10 : wa.cell? ⟨g + 2, 10, none⟩ = some (.slice none 0 0) := (h3).cell 10
  have fcc10 := (h3).frozen 10
  have cc11 : wa.cell? ⟨g + 2, 11, none⟩ = some (.string ⟨#[]⟩) := (h3).cell 11
  have fcc11 := (h3).frozen 11
  have cc12 : wa.cell? ⟨g + 2, 12, none⟩ = some (.string ⟨#[]⟩) := (h3).cell 12
  have fcc12 := (h3).frozen 12
  have cc13 : wa.cell? ⟨g + 2, 13, none⟩ = some (.bool false) := (h3).cell 13
  have fcc13 := (h3).frozen 13
  have lcc := (h3).lt
  clear h1 h2 h3 hb
  cases ok with
  | true =>
    obtain ⟨L, hL, rfl, hL2⟩ := HF.out.2.1 rfl
    go_wp2_with fail
    have hz := blk_puts [.int .i64 4, .slice none 0 0, .int .i64 a1, .int .i64 a2, .string s, .int .i64 0, .int .i64 0, .int .i64 0, .int .i64 0, .int .i64 0, .slice none 0 0, .string ⟨#[]⟩, .string ⟨#[]⟩, .bool false] zero14.toList (wa) 0 [] H.out.2.2.1 rfl rfl
    have hbz := H.out.2.2.2.trans ((below_put14 [.int .i64 4, .slice none 0 0, .int .i64 a1, .int .i64 a2, .string s, .int .i64 0, .int .i64 0, .int .i64 0, .int .i64 0, .int .i64 0, .slice none 0 0, .string ⟨#[]⟩, .string ⟨#[]⟩, .bool false] (wa) (g + 2) 0).mono (by omega))
    have hgz := grownBy_puts [.int .i64 4, .slice none 0 0, .int .i64 a1, .int .i64 a2, .string s, .int .i64 0, .int .i64 0, .int .i64 0, .int .i64 0, .int .i64 0, .slice none 0 0, .string ⟨#[]⟩, .string ⟨#[]⟩, .bool false] (wa) (g + 2) 0
    simp only [puts, Nat.zero_add, Nat.reduceAdd] at hz hbz hgz
    refine bodyPost_ret (v := .agg #[.int .i64 4, .slice none 0 0, .int .i64 a1, .int .i64 a2, .string s, .int .i64 0, .int .i64 0, .int .i64 0, .int .i64 0, .int .i64 0, .slice none 0 0, .string ⟨#[]⟩, .string ⟨#[]⟩, .bool false]) ?_ rfl ?_
    · refine ret_cd Try.results114 ?_ hz rfl
      rfl
    · refine ⟨⟨_, rfl, ?_⟩, by rw [HG.out]; exact hbz⟩
      have hlf := HF.out.1.symm.trans hL
      rw [pR_leaf hlf]
      obtain ⟨i1, i2⟩ := leafF_64 hlf
      subst hL2
      exact leaf_qd _ _ i1 i2
  | false =>
    have hLn := HF.out.2.2 rfl
    have hln : leafF bq (.mk ⟨tk, tt, (tn, td), ti, tid⟩ (kids.map Vl.c)) = none := HF.out.1.symm.trans hLn
    have HLF := Lib.hid (fun wx => kleaf15_any wx)
    by_cases h21 : tk = 21
    · subst h21
      go_upto_region 4 with fail
      have hb0 : Below wa.heap.size wa wa := Below.refl _ _
      have KEEP := Lib.hid (show ∀ wx, Below wa.heap.size wa wx → wx.cell? ⟨g, 6, none⟩ = some (.slice koa K kcap) ∧ wx.cell? ⟨g + 1, 15, none⟩ = some (.slice aoa A acap) from
        fun wx hx => ⟨(hx.cell (p := ⟨g, 6, none⟩) lca).trans ca6, (hx.cell (p := ⟨g + 1, 15, none⟩) lcb).trans cb15⟩)
      obtain ⟨Y, hY⟩ : ∃ Y, wholeQ parseQ (leafF bq) h (kids.map Vl.c) = Y := ⟨_, rfl⟩
      have hY2 : parseQ (pR bq h) (solidV (kids.map Vl.c)) = Y := by
        rw [← hY, whole_pR]
        intro h0
        subst h0
        cases kids with
        | nil => rfl
        | cons x r => exact (HK.out.1.each 0 x rfl).elim
      have HY := Lib.hid hY
      obtain ⟨ok2, hok2⟩ : ∃ b, Y.isSome = b := ⟨_, rfl⟩
      obtain ⟨Q, hQ⟩ : ∃ Q, Y.getD zeroQt = Q := ⟨_, rfl⟩
      have HPK := Lib.hid (show ∀ wx, Below wa.heap.size wa wx → Calls Try.prog 93 #[.slice koa K kcap] wx fun e w' => ∃ (oa' : Option Addr) (n' cap' : Nat), e = .returned (.slice oa' n' cap') ∧ Below wx.heap.size wx w' ∧ Below wa.heap.size wa w' ∧ Hid (∀ wy, Below w'.heap.size w' wy → Calls Try.prog 92 #[.slice oa' n' cap', .slice aoa A acap] wy fun e w2 => ∃ (qk : Int) (qa : Option Addr) (qn qc : Nat) (q1 q2 : Int) (q3 : List UInt8), e = .returned (.tuple #[.agg #[.int .i64 qk, .slice qa qn qc, .int .i64 q1, .int .i64 q2, .string ⟨q3.toArray⟩, .int .i64 0, .int .i64 0, .int .i64 0, .int .i64 0, .int .i64 0, .slice none 0 0, .string ⟨#[]⟩, .string ⟨#[]⟩, .bool false], .bool ok2]) ∧ Below wy.heap.size wy w2 ∧ Below wa.heap.size wa w2 ∧ Hid (isQd (· < wy.heap.size) Q (.agg #[.int .i64 qk, .slice qa qn qc, .int .i64 q1, .int .i64 q2, .string ⟨q3.toArray⟩, .int .i64 0, .int .i64 0, .int .i64 0, .int .i64 0, .int .i64 0, .slice none 0 0, .string ⟨#[]⟩, .string ⟨#[]⟩, .bool false]) w2)) from fun wx hx => by
        have hpk := rpack_any h kids koa kcap kb ko wx (HK.out.1.below hx)
        rw [HK.out.2.2.2.2.1] at hpk
        refine hpk.mono ?_
        rintro e w' ⟨⟨D, oa', cap', b', rfl, hDc, hDv, _⟩, hbw⟩
        have hA1 := hx.trans (hbw.mono hx.size)
        refine ⟨_, _, _, rfl, hbw, hA1, Lib.hid fun wy hy => ?_⟩
        have hA2 := hA1.trans (hy.mono hA1.size)
        have hpr := HR.out D oa' cap' b' 0 akids aoa acap ab ao ha wy (hDv.below hy) (by rw [hDc]; exact Nat.le_trans (sz_solid _) HK.out.2.2.1) (HK.out.2.1.below hA2) (by rw [hDc]; exact HK.out.2.2.2.1 rfl hLn)
        rw [HK.out.2.2.2.2.2, hDc, hY2, hok2, hQ] at hpr
        refine hpr.mono ?_
        rintro e w2 ⟨r, ok3, rfl, rfl, hq, hb2⟩
        obtain ⟨qk, qa, qn, qc, ⟨q1, q2, q3⟩, hr⟩ := hq.cells
        simp only [qcells] at hr
        subst hr
        exact ⟨qk, qa, qn, qc, q1, q2, q3, rfl, hb2, hA2.trans (hb2.mono hA2.size), Lib.hid hq⟩)
      clear ca0 fca0 ca1 fca1 ca2 fca2 ca3 fca3 ca4 fca4 ca5 fca5 ca6 fca6 cb0 fcb0 cb1 fcb1 cb2 fcb2 cb3 fcb3 cb4 fcb4 cb5 fcb5 cb6 fcb6 cb7 fcb7 cb8 fcb8 cb9 fcb9 cb10 fcb10 cb11 fcb11 cb12 fcb12 cb13 fcb13 cb14 fcb14 cb15 fcb15
      go_cut [5, 6] from 15 to 23 (fun s5 s6 wx => ∃ (g5 : Nat) (qk : Int) (qa : Option Addr) (qn qc : Nat) (q1 q2 : Int) (q3 : List UInt8), s5 = .pointer (some ⟨g5, 0, none⟩) ∧ s6 = .bool ok2 ∧ wa.heap.size ≤ g5 ∧ Hid (Below wa.heap.size wa wx) ∧ Hid (Blk wx g5 49 #[.int .i64 qk, .slice qa qn qc, .int .i64 q1, .int .i64 q2, .string ⟨q3.toArray⟩, .int .i64 0, .int .i64 0, .int .i64 0, .int .i64 0, .int .i64 0, .slice none 0 0, .string ⟨#[]⟩, .string ⟨#[]⟩, .bool false]) ∧ Hid (isQd (· < wa.heap.size) Q (.agg #[.int .i64 qk, .slice qa qn qc, .int .i64 q1, .int .i64 q2, .string ⟨q3.toArray⟩, .int .i64 0, .int .i64 0, .int .i64 0, .int .i64 0, .int .i64 0, .slice none 0 0, .string ⟨#[]⟩, .string ⟨#[]⟩, .bool false]) wx))
      case first =>
        go_region_held3 (fun wx => wx.cell? ⟨g, 6, none⟩ = some (.slice koa K kcap) ∧ wx.cell? ⟨g + 1, 15, none⟩ = some (.slice aoa A acap)) (exact KEEP.out _ (by repeat (first | with_reducible assumption | with_reducible exact Below.refl _ _ | with_reducible refine Below.drew ?_ | with_reducible refine below_grow ?_ _ | with_reducible refine below_alloc_self ?_ _ | (with_reducible refine Below.setCell ?_ ?hq _; case hq => (dsimp only; first | (simp; done) | (refine Below.size (B := wa.heap.size) (w := wa) ?_; repeat (first | with_reducible assumption | with_reducible exact Below.refl _ _ | with_reducible refine Below.drew ?_ | with_reducible refine below_grow ?_ _ | with_reducible refine below_alloc_self ?_ _))))))) (first | (go_at_call 93; (with_reducible refine (HPK.out _ (by repeat (first | with_reducible assumption | with_reducible exact Below.refl _ _ | with_reducible refine Below.drew ?_ | with_reducible refine below_alloc_self ?_ _))).mono ?_); rintro e w1 ⟨p1, p2, p3, rfl, hb1, hA1, HV1⟩; obtain ⟨m1, rfl⟩ := grow_mk hb1; clear hb1) | (go_at_call 92; (with_reducible refine (HV1.out _ (by repeat (first | with_reducible assumption | with_reducible exact Below.refl _ _ | with_reducible refine Below.drew ?_ | with_reducible refine below_alloc_self ?_ _))).mono ?_); rintro e w2 ⟨qk, qa, qn, qc, q1, q2, q3, rfl, hb2, hA2, HQ2⟩; (first | obtain ⟨m2, rfl⟩ := grow_mk ((grow_below _).trans (hb2.mono (grow_size _))) | obtain ⟨m2, rfl⟩ := grow_mk hb2); clear hb2))
        · go_wp2_with fail
          go_meet
          exact ⟨_, qk, qa, qn, qc, q1, q2, q3, rfl, rfl, (Below.size (B := wa.heap.size) (w := wa) (by repeat (first | with_reducible assumption | with_reducible exact Below.refl _ _ | with_reducible refine Below.drew ?_ | with_reducible refine below_grow ?_ _ | with_reducible refine below_alloc_self ?_ _))), Lib.hid (by repeat (first | with_reducible assumption | with_reducible exact Below.refl _ _ | with_reducible refine Below.drew ?_ | with_reducible refine below_grow ?_ _ | with_reducible refine below_alloc_self ?_ _)), Lib.hid (Blk.new _ _ _), Lib.hid ((HQ2.out.below (below_box _ _)).anti fun b hb => Or.inl (Nat.lt_of_lt_of_le hb (Below.size (B := wa.heap.size) (w := wa) (by repeat (first | with_reducible assumption | with_reducible exact Below.refl _ _ | with_reducible refine Below.drew ?_ | with_reducible refine below_grow ?_ _ | with_reducible refine below_alloc_self ?_ _)))))⟩
        · go_wp2_with fail
          go_meet
          exact ⟨_, qk, qa, qn, qc, q1, q2, q3, rfl, rfl, (Below.size (B := wa.heap.size) (w := wa) (by repeat (first | with_reducible assumption | with_reducible exact Below.refl _ _ | with_reducible refine Below.drew ?_ | with_reducible refine below_grow ?_ _ | with_reducible refine below_alloc_self ?_ _))), Lib.hid (Below.put14 (by repeat (first | with_reducible assumption | with_reducible exact Below.refl _ _ | with_reducible refine Below.drew ?_ | with_reducible refine below_grow ?_ _ | with_reducible refine below_alloc_self ?_ _)) (Below.size (B := wa.heap.size) (w := wa) (by repeat (first | with_reducible assumption | with_reducible exact Below.refl _ _ | with_reducible refine Below.drew ?_ | with_reducible refine below_grow ?_ _ | with_reducible refine below_alloc_self ?_ _))) _ _ _ _ _ _ _ _ _ _ _ _ _ _), Lib.hid (Blk.put14 (Blk.grow (Blk.new _ _ _) _) _ _ _ _ _ _ _ _ _ _ _ _ _ _), Lib.hid ((isQd.put14 HQ2.out (Blk.new _ _ _).lt _ _ _ _ _ _ _ _ _ _ _ _ _ _).anti fun b hb => Or.inl (Nat.lt_of_lt_of_le hb (Below.size (B := wa.heap.size) (w := wa) (by repeat (first | with_reducible assumption | with_reducible exact Below.refl _ _ | with_reducible refine Below.drew ?_ | with_reducible refine below_grow ?_ _ | with_reducible refine below_alloc_self ?_ _)))))⟩
        · go_wp2_with fail
          go_meet
          exact ⟨_, qk, qa, qn, qc, q1, q2, q3, rfl, rfl, Nat.le_refl _, Lib.hid (Below.put14 (by repeat (first | with_reducible assumption | with_reducible exact Below.refl _ _ | with_reducible refine Below.drew ?_ | with_reducible refine below_grow ?_ _ | with_reducible refine below_alloc_self ?_ _)) (Nat.le_refl _) _ _ _ _ _ _ _ _ _ _ _ _ _ _), Lib.hid (Blk.put14 (Blk.grow (show Blk (wa.alloc (.cells zero14 49)).drew wa.heap.size 49 zero14 from Blk.new wa 49 zero14) _) _ _ _ _ _ _ _ _ _ _ _ _ _ _), Lib.hid ((isQd.put14 HQ2.out (Blk.grow (show Blk (wa.alloc (.cells zero14 49)).drew wa.heap.size 49 zero14 from Blk.new wa 49 zero14) m1).lt _ _ _ _ _ _ _ _ _ _ _ _ _ _).anti fun b hb => Or.inl (Nat.lt_of_lt_of_le hb (Below.size (B := wa.heap.size) (w := wa) (by repeat (first | with_reducible assumption | with_reducible exact Below.refl _ _ | with_reducible refine Below.drew ?_ | with_reducible refine below_grow ?_ _ | with_reducible refine below_alloc_self ?_ _)))))⟩
      case rest =>
        obtain ⟨g5, qk, qa, qn, qc, q1, q2, q3, rfl, rfl, hg5, hbx, hN, hQx⟩ := hcut
        have h3 := H.out.2.2.1.below hbx.out H.out.2.2.1.lt
        have HB6 := Lib.hid (H.out.2.2.2.trans (hbx.out.mono (Nat.le_of_lt lca)))
        have H6 := Lib.hid h3
        have hgw := hbx.out.size
        clear cc0 fcc0 cc1 fcc1 cc2 fcc2 cc3 fcc3 cc4 fcc4 cc5 fcc5 cc6 fcc6 cc7 fcc7 cc8 fcc8 cc9 fcc9 cc10 fcc10 cc11 fcc11 cc12 fcc12 cc13 fcc13 lcc hbx HPK KEEP hb0
        have cn0 : wc.cell? ⟨g5, 0, none⟩ = some (.int .i64 qk) := (hN.out).cell 0
        have fcn0 := (hN.out).frozen 0
        have cn1 : wc.cell? ⟨g5, 1, none⟩ = some (.slice qa qn qc) := (hN.out).cell 1
        have fcn1 := (hN.out).frozen 1
        have cn2 : wc.cell? ⟨g5, 2, none⟩ = some (.int .i64 q1) := (hN.out).cell 2
        have fcn2 := (hN.out).frozen 2
        have cn3 : wc.cell? ⟨g5, 3, none⟩ = some (.int .i64 q2) := (hN.out).cell 3
        have fcn3 := (hN.out).frozen 3
        have cn4 : wc.cell? ⟨g5, 4, none⟩ = some (.string ⟨q3.toArray⟩) := (hN.out).cell 4
        have fcn4 := (hN.out).frozen 4
        have cn5 : wc.cell? ⟨g5, 5, none⟩ = some (.int .i64 0) := (hN.out).cell 5
        have fcn5 := (hN.out).frozen 5
        have cn6 : wc.cell? ⟨g5, 6, none⟩ = some (.int .i64 0) := (hN.out).cell 6
        have fcn6 := (hN.out).frozen 6
        have cn7 : wc.cell? ⟨g5, 7, none⟩ = some (.int .i64 0) := (hN.out).cell 7
        have fcn7 := (hN.out).frozen 7
        have cn8 : wc.cell? ⟨g5, 8, none⟩ = some (.int .i64 0) := (hN.out).cell 8
        have fcn8 := (hN.out).frozen 8
        have cn9 : wc.cell? ⟨g5, 9, none⟩ = some (.int .i64 0) := (hN.out).cell 9
        have fcn9 := (hN.out).frozen 9
        have cn10 : wc.cell? ⟨g5, 10, none⟩ = some (.slice none 0 0) := (hN.out).cell 10
        have fcn10 := (hN.out).frozen 10
        have cn11 : wc.cell? ⟨g5, 11, none⟩ = some (.string ⟨#[]⟩) := (hN.out).cell 11
        have fcn11 := (hN.out).frozen 11
        have cn12 : wc.cell? ⟨g5, 12, none⟩ = some (.string ⟨#[]⟩) := (hN.out).cell 12
        have fcn12 := (hN.out).frozen 12
        have cn13 : wc.cell? ⟨g5, 13, none⟩ = some (.bool false) := (hN.out).cell 13
        have fcn13 := (hN.out).frozen 13
        have lcn := (hN.out).lt
        have cc0 : wc.cell? ⟨g + 2, 0, none⟩ = some (.int .i64 0) := (h3).cell 0
        have fcc0 := (h3).frozen 0
        have cc1 : wc.cell? ⟨g + 2, 1, none⟩ = some (.slice none 0 0) := (h3).cell 1
        have fcc1 := (h3).frozen 1
        have cc2 : wc.cell? ⟨g + 2, 2, none⟩ = some (.int .i64 0) := (h3).cell 2
        have fcc2 := (h3).frozen 2
        have cc3 : wc.cell? ⟨g + 2, 3, none⟩ = some (.int .i64 0) := (h3).cell 3
        have fcc3 := (h3).frozen 3
        have cc4 : wc.cell? ⟨g + 2, 4, none⟩ = some (.string ⟨#[]⟩) := (h3).cell 4
        have fcc4 := (h3).frozen 4
        have cc5 : wc.cell? ⟨g + 2, 5, none⟩ = some (.int .i64 0) := (h3).cell 5
        have fcc5 := (h3).frozen 5
        have cc6 : wc.cell? ⟨g + 2, 6, none⟩ = some (.int .i64 0) := (h3).cell 6
        have fcc6 := (h3).frozen 6
        have cc7 : wc.cell? ⟨g + 2, 7, none⟩ = some (.int .i64 0) := (h3).cell 7
        have fcc7 := (h3).frozen 7
        have cc8 : wc.cell? ⟨g + 2, 8, none⟩ = some (.int .i64 0) := (h3).cell 8
        have fcc8 := (h3).frozen 8
        have cc9 : wc.cell? ⟨g + 2, 9, none⟩ = some (.int .i64 0) := (h3).cell 9
        have fcc9 := (h3).frozen 9
        have cc10 : wc.cell? ⟨g + 2, 10, none⟩ = some (.slice none 0 0) := (h3).cell 10
        have fcc10 := (h3).frozen 10
        have cc11 : wc.cell? ⟨g + 2, 11, none⟩ = some (.string ⟨#[]⟩) := (h3).cell 11
        have fcc11 := (h3).frozen 11
        have cc12 : wc.cell? ⟨g + 2, 12, none⟩ = some (.string ⟨#[]⟩) := (h3).cell 12
        have fcc12 := (h3).frozen 12
        have cc13 : wc.cell? ⟨g + 2, 13, none⟩ = some (.bool false) := (h3).cell 13
        have fcc13 := (h3).frozen 13
        have lcc := (h3).lt
        clear h3
        cases Y with
        | none =>
          obtain rfl : ok2 = false := hok2.symm
          go_wp2_with fail
          ((with_reducible refine ((HLF.out _)).mono ?_); rintro e w' ⟨rfl, hbw⟩)
          obtain ⟨m7, rfl⟩ := grow_mk hbw
          clear hbw
          go_wp2_with fail
          have hz := blk_puts [.int .i64 4, .slice none 0 0, .int .i64 0, .int .i64 0, .string ⟨#[]⟩, .int .i64 0, .int .i64 0, .int .i64 0, .int .i64 0, .int .i64 0, .slice none 0 0, .string ⟨#[]⟩, .string ⟨#[]⟩, .bool false] zero14.toList (grow wc m7) 0 [] (H6.out.grow m7) rfl rfl
          have hbz := (HB6.out.trans ((grow_below m7).mono (by omega))).trans ((below_put14 [.int .i64 4, .slice none 0 0, .int .i64 0, .int .i64 0, .string ⟨#[]⟩, .int .i64 0, .int .i64 0, .int .i64 0, .int .i64 0, .int .i64 0, .slice none 0 0, .string ⟨#[]⟩, .string ⟨#[]⟩, .bool false] (grow wc m7) (g + 2) 0).mono (by omega))
          have hgz := grownBy_puts [.int .i64 4, .slice none 0 0, .int .i64 0, .int .i64 0, .string ⟨#[]⟩, .int .i64 0, .int .i64 0, .int .i64 0, .int .i64 0, .int .i64 0, .slice none 0 0, .string ⟨#[]⟩, .string ⟨#[]⟩, .bool false] (grow wc m7) (g + 2) 0
          simp only [puts, Nat.zero_add, Nat.reduceAdd] at hz hbz hgz
          refine bodyPost_ret (v := .agg #[.int .i64 4, .slice none 0 0, .int .i64 0, .int .i64 0, .string ⟨#[]⟩, .int .i64 0, .int .i64 0, .int .i64 0, .int .i64 0, .int .i64 0, .slice none 0 0, .string ⟨#[]⟩, .string ⟨#[]⟩, .bool false]) ?_ rfl ?_
          · refine ret_cd Try.results114 ?_ hz rfl
            rfl
          · refine ⟨⟨_, rfl, ?_⟩, by rw [HG.out]; exact hbz⟩
            rw [pR_par hln, HY.out]
            exact leaf_qd _ _ (by unfold I64 zeroQ; decide) (by unfold I64 zeroQ; decide)
        | some Q2 =>
          obtain rfl : ok2 = true := hok2.symm
          obtain rfl : Q2 = Q := hQ
          go_wp2_with fail
          have hz := blk_puts [.int .i64 qk, .slice qa qn qc, .int .i64 q1, .int .i64 q2, .string ⟨q3.toArray⟩, .int .i64 0, .int .i64 0, .int .i64 0, .int .i64 0, .int .i64 0, .slice none 0 0, .string ⟨#[]⟩, .string ⟨#[]⟩, .bool false] zero14.toList (wc) 0 [] H6.out rfl rfl
          have hbz := HB6.out.trans ((below_put14 [.int .i64 qk, .slice qa qn qc, .int .i64 q1, .int .i64 q2, .string ⟨q3.toArray⟩, .int .i64 0, .int .i64 0, .int .i64 0, .int .i64 0, .int .i64 0, .slice none 0 0, .string ⟨#[]⟩, .string ⟨#[]⟩, .bool false] (wc) (g + 2) 0).mono (by omega))
          have hgz := grownBy_puts [.int .i64 qk, .slice qa qn qc, .int .i64 q1, .int .i64 q2, .string ⟨q3.toArray⟩, .int .i64 0, .int .i64 0, .int .i64 0, .int .i64 0, .int .i64 0, .slice none 0 0, .string ⟨#[]⟩, .string ⟨#[]⟩, .bool false] (wc) (g + 2) 0
          simp only [puts, Nat.zero_add, Nat.reduceAdd] at hz hbz hgz
          refine bodyPost_ret (v := .agg #[.int .i64 qk, .slice qa qn qc, .int .i64 q1, .int .i64 q2, .string ⟨q3.toArray⟩, .int .i64 0, .int .i64 0, .int .i64 0, .int .i64 0, .int .i64 0, .slice none 0 0, .string ⟨#[]⟩, .string ⟨#[]⟩, .bool false]) ?_ rfl ?_
          · refine ret_cd Try.results114 ?_ hz rfl
            rfl
          · refine ⟨⟨_, rfl, ?_⟩, by rw [HG.out]; exact hbz⟩
            rw [pR_par hln, HY.out]
            exact (hQx.out.grown hgz (fun k e _ => by have := Option.some.inj e; have := H.out.2.2.1.lt; omega)).anti fun b hb => Or.inl (by have := HG.out; omega)
    · have gk : (tk == 21) = false := by simpa using h21
      go_wp2_with fail
      ((with_reducible refine ((HLF.out _)).mono ?_); rintro e w' ⟨rfl, hbw⟩)
      obtain ⟨m7, rfl⟩ := grow_mk hbw
      clear hbw
      go_wp2_with fail
      have hz := blk_puts [.int .i64 4, .slice none 0 0, .int .i64 0, .int .i64 0, .string ⟨#[]⟩, .int .i64 0, .int .i64 0, .int .i64 0, .int .i64 0, .int .i64 0, .slice none 0 0, .string ⟨#[]⟩, .string ⟨#[]⟩, .bool false] zero14.toList (grow wa m7) 0 [] (H.out.2.2.1.grow m7) rfl rfl
      have hbz := (H.out.2.2.2.trans ((grow_below m7).mono (by omega))).trans ((below_put14 [.int .i64 4, .slice none 0 0, .int .i64 0, .int .i64 0, .string ⟨#[]⟩, .int .i64 0, .int .i64 0, .int .i64 0, .int .i64 0, .int .i64 0, .slice none 0 0, .string ⟨#[]⟩, .string ⟨#[]⟩, .bool false] (grow wa m7) (g + 2) 0).mono (by omega))
      have hgz := grownBy_puts [.int .i64 4, .slice none 0 0, .int .i64 0, .int .i64 0, .string ⟨#[]⟩, .int .i64 0, .int .i64 0, .int .i64 0, .int .i64 0, .int .i64 0, .slice none 0 0, .string ⟨#[]⟩, .string ⟨#[]⟩, .bool false] (grow wa m7) (g + 2) 0
      simp only [puts, Nat.zero_add, Nat.reduceAdd] at hz hbz hgz
      refine bodyPost_ret (v := .agg #[.int .i64 4, .slice none 0 0, .int .i64 0, .int .i64 0, .string ⟨#[]⟩, .int .i64 0, .int .i64 0, .int .i64 0, .int .i64 0, .int .i64 0, .slice none 0 0, .string ⟨#[]⟩, .string ⟨#[]⟩, .bool false]) ?_ rfl ?_
      · refine ret_cd Try.results114 ?_ hz rfl
        rfl
      · refine ⟨⟨_, rfl, ?_⟩, by rw [HG.out]; exact hbz⟩
        rw [pR_fun h21 hln]
        exact leaf_qd _ _ (by unfold I64 zeroQ; decide) (by unfold I64 zeroQ; decide)

end Go.Proofs.Ytgjhaanpkfheeaa
