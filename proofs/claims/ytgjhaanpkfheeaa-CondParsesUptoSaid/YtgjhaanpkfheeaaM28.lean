/- Of my texts: ToldP, NameO. -/
import Derived.Test.YtgjhaanpkfheeaaM25
import Derived.Test.YtgjhaanpkfheeaaM27
import Derived.Deep.RegionHeld3
namespace Go.Proofs.Ytgjhaanpkfheeaa
set_option linter.unusedVariables false
set_option linter.unusedSimpArgs false
open Go.RowKit

theorem leaf_nil0 (f : Fn) (a c : Array Value) (w : World) (d : Nat) : (Op.equalIn (d + 1) 65 (.func f a c) .nilFunc).run Try.prog w = .ok false w := by
  simp [Op.equalIn, run_underlying Try.underlying65]
theorem leaf_none0 (w : World) (d : Nat) : (Op.equalIn (d + 1) 65 .nilFunc .nilFunc).run Try.prog w = .ok true w := by
  simp [Op.equalIn, run_underlying Try.underlying65]
@[go_sem] theorem leaf_nil (f : Fn) (a c : Array Value) (w : World) : Sem.run Try.prog (binOp .eql 65 (.func f a c) .nilFunc) w = .ok (.bool false) w := by
  have h2 : (Op.equal 65 (.func f a c) .nilFunc).run Try.prog w = .ok false w := leaf_nil0 f a c w 9999
  simp only [binOp]
  simp [h2]
@[go_sem] theorem leaf_none (w : World) : Sem.run Try.prog (binOp .eql 65 .nilFunc .nilFunc) w = .ok (.bool true) w := by
  have h2 : (Op.equal 65 .nilFunc .nilFunc).run Try.prog w = .ok true w := leaf_none0 w 9999
  simp only [binOp]
  simp [h2]

theorem Blk.put14 {w : World} {g : Nat} {t : TypeId} (h : Blk w g t zero14) (v0 v1 v2 v3 v4 v5 v6 v7 v8 v9 v10 v11 v12 v13 : Value) : Blk (((((((((((((((w).setCell ⟨g, 0, none⟩ v0).setCell ⟨g, 1, none⟩ v1).setCell ⟨g, 2, none⟩ v2).setCell ⟨g, 3, none⟩ v3).setCell ⟨g, 4, none⟩ v4).setCell ⟨g, 5, none⟩ v5).setCell ⟨g, 6, none⟩ v6).setCell ⟨g, 7, none⟩ v7).setCell ⟨g, 8, none⟩ v8).setCell ⟨g, 9, none⟩ v9).setCell ⟨g, 10, none⟩ v10).setCell ⟨g, 11, none⟩ v11).setCell ⟨g, 12, none⟩ v12).setCell ⟨g, 13, none⟩ v13) g t #[v0, v1, v2, v3, v4, v5, v6, v7, v8, v9, v10, v11, v12, v13] := by
  have hz := blk_puts [v0, v1, v2, v3, v4, v5, v6, v7, v8, v9, v10, v11, v12, v13] zero14.toList w 0 [] h rfl rfl
  simp only [puts, Nat.zero_add, Nat.reduceAdd] at hz
  exact hz
theorem Below.put14 {B : Nat} {w0 w : World} {g : Nat} (h : Below B w0 w) (hg : B ≤ g) (v0 v1 v2 v3 v4 v5 v6 v7 v8 v9 v10 v11 v12 v13 : Value) : Below B w0 (((((((((((((((w).setCell ⟨g, 0, none⟩ v0).setCell ⟨g, 1, none⟩ v1).setCell ⟨g, 2, none⟩ v2).setCell ⟨g, 3, none⟩ v3).setCell ⟨g, 4, none⟩ v4).setCell ⟨g, 5, none⟩ v5).setCell ⟨g, 6, none⟩ v6).setCell ⟨g, 7, none⟩ v7).setCell ⟨g, 8, none⟩ v8).setCell ⟨g, 9, none⟩ v9).setCell ⟨g, 10, none⟩ v10).setCell ⟨g, 11, none⟩ v11).setCell ⟨g, 12, none⟩ v12).setCell ⟨g, 13, none⟩ v13) := by
  have hz := h.trans ((below_put14 [v0, v1, v2, v3, v4, v5, v6, v7, v8, v9, v10, v11, v12, v13] w g 0).mono hg)
  simp only [puts, Nat.zero_add, Nat.reduceAdd] at hz
  exact hz

/-- the reader's function -/
def leafV (b : Bool) : Value := if b then .func (.func 56) #[] #[] else .nilFunc

set_option maxRecDepth 20000 in
set_option maxHeartbeats 8000000 in
theorem ktold_any (bq : Bool) (gR h : Nat) (tk : Int) (tt : List UInt8) (tn td : Int) (ti tid : Bool) (oa : Option Addr) (cap bb o : Nat) (l : List Vl) (w : World) (hR : Blk w gR 97 #[leafV bq]) (hs : VsIn w h oa cap bb o l) (hm : ∃ n, mayV n (l.map Vl.c) = true) (hz : szV (l.map Vl.c) ≤ 1073741824) :
    Calls Try.prog 134 #[.pointer (some ⟨gR, 0, none⟩), .agg #[.int .i64 tk, .string ⟨tt.toArray⟩, .int .i64 tn, .int .i64 td, .bool ti, .bool tid, .slice oa l.length cap]] w fun e w' => e = .returned (toldV (leafF bq (.mk ⟨tk, tt, (tn, td), ti, tid⟩ (l.map Vl.c)))) ∧ Below w.heap.size w w' := by
  obtain ⟨X, hX⟩ : ∃ X, leafF bq (.mk ⟨tk, tt, (tn, td), ti, tid⟩ (l.map Vl.c)) = X := ⟨_, rfl⟩
  rw [hX]
  obtain ⟨n, hn⟩ : ∃ n, l.length = n := ⟨_, rfl⟩
  have hb := below_box w (.cells #[.int .i64 tk, .string ⟨tt.toArray⟩, .int .i64 tn, .int .i64 td, .bool ti, .bool tid, .slice oa n cap] 74)
  have h1 := (Blk.new w 74 #[.int .i64 tk, .string ⟨tt.toArray⟩, .int .i64 tn, .int .i64 td, .bool ti, .bool tid, .slice oa n cap]).old (.cells zero14 49)
  have h2 := Blk.new (w.alloc (.cells #[.int .i64 tk, .string ⟨tt.toArray⟩, .int .i64 tn, .int .i64 td, .bool ti, .bool tid, .slice oa n cap] 74)) 49 zero14
  have hb2 := hb.alloc (by simp) (.cells zero14 49)
  have hs2 : (w.alloc (.cells #[.int .i64 tk, .string ⟨tt.toArray⟩, .int .i64 tn, .int .i64 td, .bool ti, .bool tid, .slice oa n cap] 74)).heap.size = w.heap.size + 1 := by simp
  rw [hs2] at h2
  have H := Lib.hid (And.intro h1 (And.intro h2 (And.intro hb2 (hR.below hb2 hR.lt))))
  have HS := Lib.hid (And.intro (hs.below hb2) (And.intro hz (And.intro hm hn)))
  have hRg := hR.lt
  clear h1 h2 hb hb2 hs2 hs hR hm hz
  simp only [zero14] at H HS
  rw [hn]
  clear hn
  have HX := Lib.hid hX
  clear hX
  go_enter Try.func134, Try.ntmps134
  go_upto_region 1 with fail
  obtain ⟨g, hg⟩ : ∃ g, w.heap.size = g := ⟨_, rfl⟩
  rw [hg] at H hRg
  simp only [hg]
  have HG := Lib.hid hg
  clear hg
  generalize World.alloc (World.alloc w _) _ = wa at *
  obtain ⟨h1, h2, hb, hR⟩ := H.out
  have ca0 : wa.cell? ⟨g, 0, none⟩ = some (.int .i64 tk) := (h1).cell 0
  have fca0 := (h1).frozen 0
  have ca1 : wa.cell? ⟨g, 1, none⟩ = some (.string ⟨tt.toArray⟩) := (h1).cell 1
  have fca1 := (h1).frozen 1
  have ca2 : wa.cell? ⟨g, 2, none⟩ = some (.int .i64 tn) := (h1).cell 2
  have fca2 := (h1).frozen 2
  have ca3 : wa.cell? ⟨g, 3, none⟩ = some (.int .i64 td) := (h1).cell 3
  have fca3 := (h1).frozen 3
  have ca4 : wa.cell? ⟨g, 4, none⟩ = some (.bool ti) := (h1).cell 4
  have fca4 := (h1).frozen 4
  have ca5 : wa.cell? ⟨g, 5, none⟩ = some (.bool tid) := (h1).cell 5
  have fca5 := (h1).frozen 5
  have ca6 : wa.cell? ⟨g, 6, none⟩ = some (.slice oa n cap) := (h1).cell 6
  have fca6 := (h1).frozen 6
  have lca := (h1).lt
  have cb0 : wa.cell? ⟨g + 1, 0, none⟩ = some (.int .i64 0) := (h2).cell 0
  have fcb0 := (h2).frozen 0
  have cb1 : wa.cell? ⟨g + 1, 1, none⟩ = some (.slice none 0 0) := (h2).cell 1
  have fcb1 := (h2).frozen 1
  have cb2 : wa.cell? ⟨g + 1, 2, none⟩ = some (.int .i64 0) := (h2).cell 2
  have fcb2 := (h2).frozen 2
  have cb3 : wa.cell? ⟨g + 1, 3, none⟩ = some (.int .i64 0) := (h2).cell 3
  have fcb3 := (h2).frozen 3
  have cb4 : wa.cell? ⟨g + 1, 4, none⟩ = some (.string ⟨#[]⟩) := (h2).cell 4
  have fcb4 := (h2).frozen 4
  have cb5 : wa.cell? ⟨g + 1, 5, none⟩ = some (.int .i64 0) := (h2).cell 5
  have fcb5 := (h2).frozen 5
  have cb6 : wa.cell? ⟨g + 1, 6, none⟩ = some (.int .i64 0) := (h2).cell 6
  have fcb6 := (h2).frozen 6
  have cb7 : wa.cell? ⟨g + 1, 7, none⟩ = some (.int .i64 0) := (h2).cell 7
  have fcb7 := (h2).frozen 7
  have cb8 : wa.cell? ⟨g + 1, 8, none⟩ = some (.int .i64 0) := (h2).cell 8
  have fcb8 := (h2).frozen 8
  have cb9 : wa.cell? ⟨g + 1, 9, none⟩ = some (.int .i64 0) := (h2).cell 9
  have fcb9 := (h2).frozen 9
  have cb10 : wa.cell? ⟨g + 1, 10, none⟩ = some (.slice none 0 0) := (h2).cell 10
  have fcb10 := (h2).frozen 10
  have cb11 : wa.cell? ⟨g + 1, 11, none⟩ = some (.string ⟨#[]⟩) := (h2).cell 11
  have fcb11 := (h2).frozen 11
  have cb12 : wa.cell? ⟨g + 1, 12, none⟩ = some (.string ⟨#[]⟩) := (h2).cell 12
  have fcb12 := (h2).frozen 12
  have cb13 : wa.cell? ⟨g + 1, 13, none⟩ = some (.bool false) := (h2).cell 13
  have fcb13 := (h2).frozen 13
  have lcb := (h2).lt
  have cr0 : wa.cell? ⟨gR, 0, none⟩ = some (leafV bq) := hR.cell 0
  have lr := hR.lt
  clear h1 h2 hb hR
  cases bq with
  | false =>
    have hX2 : X = none := HX.out.symm
    simp only [leafV, Bool.false_eq_true, if_false] at cr0
    go_wp2_with fail
    have hz := blk_puts [.int .i64 0, .slice none 0 0, .int .i64 0, .int .i64 0, .string ⟨#[]⟩, .int .i64 0, .int .i64 0, .int .i64 0, .int .i64 0, .int .i64 0, .slice none 0 0, .string ⟨#[]⟩, .string ⟨#[]⟩, .bool false] zero14.toList wa 0 [] H.out.2.1 rfl rfl
    have hbz := H.out.2.2.1.trans ((below_put14 [.int .i64 0, .slice none 0 0, .int .i64 0, .int .i64 0, .string ⟨#[]⟩, .int .i64 0, .int .i64 0, .int .i64 0, .int .i64 0, .int .i64 0, .slice none 0 0, .string ⟨#[]⟩, .string ⟨#[]⟩, .bool false] wa (g + 1) 0).mono (Nat.le_succ g))
    simp only [puts, Nat.zero_add, Nat.reduceAdd] at hz hbz
    refine bodyPost_ret (v := .tuple #[.agg #[.int .i64 0, .slice none 0 0, .int .i64 0, .int .i64 0, .string ⟨#[]⟩, .int .i64 0, .int .i64 0, .int .i64 0, .int .i64 0, .int .i64 0, .slice none 0 0, .string ⟨#[]⟩, .string ⟨#[]⟩, .bool false], .bool false]) ?_ rfl ?_
    · refine ret_cd2 Try.results134 ?_ ?_ hz rfl
      all_goals rfl
    · refine ⟨?_, by rw [HG.out]; exact hbz⟩
      rw [hX2]
      rfl
  | true =>
    simp only [leafV, if_true] at cr0
    go_upto_region 3 with fail
    have hb0 : Below wa.heap.size wa wa := Below.refl _ _
    have KEEP := Lib.hid (show ∀ wx, Below wa.heap.size wa wx → wx.cell? ⟨gR, 0, none⟩ = some (.func (.func 56) #[] #[]) ∧ wx.cell? ⟨g, 0, none⟩ = some (.int .i64 tk) ∧ wx.cell? ⟨g, 1, none⟩ = some (.string ⟨tt.toArray⟩) ∧ wx.cell? ⟨g, 2, none⟩ = some (.int .i64 tn) ∧ wx.cell? ⟨g, 3, none⟩ = some (.int .i64 td) ∧ wx.cell? ⟨g, 4, none⟩ = some (.bool ti) ∧ wx.cell? ⟨g, 5, none⟩ = some (.bool tid) ∧ wx.cell? ⟨g, 6, none⟩ = some (.slice oa n cap) from
      fun wx hx => ⟨(hx.cell (p := ⟨gR, 0, none⟩) lr).trans cr0, (hx.cell (p := ⟨g, 0, none⟩) lca).trans ca0, (hx.cell (p := ⟨g, 1, none⟩) lca).trans ca1, (hx.cell (p := ⟨g, 2, none⟩) lca).trans ca2, (hx.cell (p := ⟨g, 3, none⟩) lca).trans ca3, (hx.cell (p := ⟨g, 4, none⟩) lca).trans ca4, (hx.cell (p := ⟨g, 5, none⟩) lca).trans ca5, (hx.cell (p := ⟨g, 6, none⟩) lca).trans ca6⟩)
    have HFL := Lib.hid (show ∀ wx, Below wa.heap.size wa wx → Calls Try.prog 139 #[.slice oa n cap] wx fun e w' => ∃ v, e = .returned v ∧ Below wx.heap.size wx w' ∧ Below wa.heap.size wa w' ∧ Hid (∀ wy, Below w'.heap.size w' wy → Calls Try.prog 138 #[v] wy fun e w2 => ∃ (a2 : Option Addr) (n2 c2 : Nat), e = .returned (.slice a2 n2 c2) ∧ Below wy.heap.size wy w2 ∧ Below wa.heap.size wa w2 ∧ Hid (∀ wz, Below w2.heap.size w2 wz → Calls Try.prog 56 #[.agg #[.int .i64 tk, .string ⟨tt.toArray⟩, .int .i64 tn, .int .i64 td, .bool ti, .bool tid, .slice a2 n2 c2]] wz fun e w3 => e = .returned (toldV X) ∧ Below wz.heap.size wz w3 ∧ Below wa.heap.size wa w3)) from fun wx hx => by
      obtain ⟨hvs, hz, ⟨nm, hm⟩, hn⟩ := HS.out
      have := rflat_any h l oa cap bb o wx (hvs.below hx) hz
      rw [hn] at this
      refine this.mono ?_
      rintro e w' ⟨v, rfl, hr⟩
      have hA1 := hx.trans (hr.below.mono hx.size)
      refine ⟨v, rfl, hr.below, hA1, Lib.hid fun wy hy => ?_⟩
      obtain ⟨oa1, cap1, g1, rfl, hsl, _⟩ := sl_of_own (owns_belowW hr.own hy)
      have hln : (flatV (l.map Vl.c)).length ≤ 274877906944 := by have := flatV_len (l.map Vl.c); omega
      refine (rvalues_any _ oa1 cap1 g1 0 wy hsl hln).mono ?_
      rintro e w2 ⟨⟨v2, xs, rfl, ho2, hxs⟩, hb2⟩
      have hA2 := hA1.trans (hy.mono hA1.size)
      have hA3 := hA2.trans (hb2.mono hA2.size)
      obtain ⟨oa2, cap2, g2, rfl, _, _⟩ := sl_of_own ho2
      refine ⟨_, _, _, rfl, hb2, hA3, Lib.hid fun wz hz2 => ?_⟩
      obtain ⟨oa3, cap3, g3, e3, hsl2, _⟩ := sl_of_own (owns_belowW ho2 hz2)
      injection e3 with e31 _ e33
      subst e31 e33
      have := kname_any tk tt tn td ti tid xs _ _ g3 wz hsl2
      rw [hxs, name_flat _ _ (may_head hm)] at this
      rw [← HX.out]
      refine this.mono ?_
      rintro e w3 ⟨rfl, hb3⟩
      have hA4 := hA3.trans (hz2.mono hA3.size)
      exact ⟨rfl, hb3, hA4.trans (hb3.mono hA4.size)⟩)
    obtain ⟨k, a, b, s, ok, hXp, hX1, hX0⟩ := told_parts X
    have HXP := Lib.hid hXp
    clear cr0 ca0 fca0 ca1 fca1 ca2 fca2 ca3 fca3 ca4 fca4 ca5 fca5 ca6 fca6
    go_cut [6, 7] from 14 to 28 (fun s6 s7 wx => ∃ g6 : Nat, s6 = .pointer (some ⟨g6, 0, none⟩) ∧ s7 = .bool ok ∧ wa.heap.size ≤ g6 ∧ Hid (Below wa.heap.size wa wx) ∧ Hid (Blk wx g6 49 #[.int .i64 k, .slice none 0 0, .int .i64 a, .int .i64 b, .string s, .int .i64 0, .int .i64 0, .int .i64 0, .int .i64 0, .int .i64 0, .slice none 0 0, .string ⟨#[]⟩, .string ⟨#[]⟩, .bool false]))
    case first =>
      go_region_held3 (fun wx => wx.cell? ⟨gR, 0, none⟩ = some (.func (.func 56) #[] #[]) ∧ wx.cell? ⟨g, 0, none⟩ = some (.int .i64 tk) ∧ wx.cell? ⟨g, 1, none⟩ = some (.string ⟨tt.toArray⟩) ∧ wx.cell? ⟨g, 2, none⟩ = some (.int .i64 tn) ∧ wx.cell? ⟨g, 3, none⟩ = some (.int .i64 td) ∧ wx.cell? ⟨g, 4, none⟩ = some (.bool ti) ∧ wx.cell? ⟨g, 5, none⟩ = some (.bool tid) ∧ wx.cell? ⟨g, 6, none⟩ = some (.slice oa n cap)) (exact KEEP.out _ (by repeat (first | with_reducible assumption | with_reducible exact Below.refl _ _ | with_reducible refine Below.drew ?_ | with_reducible refine below_grow ?_ _ | with_reducible refine below_alloc_self ?_ _ | (with_reducible refine Below.setCell ?_ ?hq _; case hq => (dsimp only; first | (simp; done) | (refine Below.size (B := wa.heap.size) (w := wa) ?_; repeat (first | with_reducible assumption | with_reducible exact Below.refl _ _ | with_reducible refine Below.drew ?_ | with_reducible refine below_grow ?_ _ | with_reducible refine below_alloc_self ?_ _))))))) (first | (go_at_call 139; (with_reducible refine (HFL.out _ (by repeat (first | with_reducible assumption | with_reducible exact Below.refl _ _ | with_reducible refine Below.drew ?_ | with_reducible refine below_alloc_self ?_ _))).mono ?_); rintro e w1 ⟨v1, rfl, hb1, hA1, HV1⟩; obtain ⟨m1, rfl⟩ := grow_mk hb1; clear hb1) | (go_at_call 138; (with_reducible refine (HV1.out _ (by repeat (first | with_reducible assumption | with_reducible exact Below.refl _ _ | with_reducible refine Below.drew ?_ | with_reducible refine below_alloc_self ?_ _))).mono ?_); rintro e w2 ⟨a2, n2, c2, rfl, hb2, hA2, HN2⟩; (first | obtain ⟨m2, rfl⟩ := grow_mk ((grow_below _).trans (hb2.mono (grow_size _))) | obtain ⟨m2, rfl⟩ := grow_mk hb2); clear hb2) | (go_at_call 56; (with_reducible refine (HN2.out _ (by repeat (first | with_reducible assumption | with_reducible exact Below.refl _ _ | with_reducible refine Below.drew ?_ | with_reducible refine below_alloc_self ?_ _))).mono ?_); rintro e w3 ⟨he3, hb3, hA3⟩; rw [HXP.out] at he3; subst he3; (first | obtain ⟨m3, rfl⟩ := grow_mk ((grow_below _).trans (hb3.mono (grow_size _))) | obtain ⟨m3, rfl⟩ := grow_mk hb3); clear hb3))
      · go_wp2_with fail
        go_meet
        exact ⟨_, rfl, rfl, (Below.size (B := wa.heap.size) (w := wa) (by repeat (first | with_reducible assumption | with_reducible exact Below.refl _ _ | with_reducible refine Below.drew ?_ | with_reducible refine below_grow ?_ _ | with_reducible refine below_alloc_self ?_ _))), Lib.hid (by repeat (first | with_reducible assumption | with_reducible exact Below.refl _ _ | with_reducible refine Below.drew ?_ | with_reducible refine below_grow ?_ _ | with_reducible refine below_alloc_self ?_ _)), Lib.hid (Blk.new _ _ _)⟩
      · go_wp2_with fail
        go_meet
        exact ⟨_, rfl, rfl, (Below.size (B := wa.heap.size) (w := wa) (by repeat (first | with_reducible assumption | with_reducible exact Below.refl _ _ | with_reducible refine Below.drew ?_ | with_reducible refine below_grow ?_ _ | with_reducible refine below_alloc_self ?_ _))), Lib.hid (Below.put14 (by repeat (first | with_reducible assumption | with_reducible exact Below.refl _ _ | with_reducible refine Below.drew ?_ | with_reducible refine below_grow ?_ _ | with_reducible refine below_alloc_self ?_ _)) (Below.size (B := wa.heap.size) (w := wa) (by repeat (first | with_reducible assumption | with_reducible exact Below.refl _ _ | with_reducible refine Below.drew ?_ | with_reducible refine below_grow ?_ _ | with_reducible refine below_alloc_self ?_ _))) _ _ _ _ _ _ _ _ _ _ _ _ _ _), Lib.hid (Blk.put14 (Blk.grow (Blk.new _ _ _) _) _ _ _ _ _ _ _ _ _ _ _ _ _ _)⟩
      · go_wp2_with fail
        go_meet
        exact ⟨_, rfl, rfl, (Below.size (B := wa.heap.size) (w := wa) (by repeat (first | with_reducible assumption | with_reducible exact Below.refl _ _ | with_reducible refine Below.drew ?_ | with_reducible refine below_grow ?_ _ | with_reducible refine below_alloc_self ?_ _))), Lib.hid (Below.put14 (by repeat (first | with_reducible assumption | with_reducible exact Below.refl _ _ | with_reducible refine Below.drew ?_ | with_reducible refine below_grow ?_ _ | with_reducible refine below_alloc_self ?_ _)) (Below.size (B := wa.heap.size) (w := wa) (by repeat (first | with_reducible assumption | with_reducible exact Below.refl _ _ | with_reducible refine Below.drew ?_ | with_reducible refine below_grow ?_ _ | with_reducible refine below_alloc_self ?_ _))) _ _ _ _ _ _ _ _ _ _ _ _ _ _), Lib.hid (Blk.put14 (Blk.grow (Blk.new _ _ _) _) _ _ _ _ _ _ _ _ _ _ _ _ _ _)⟩
      · go_wp2_with fail
        go_meet
        exact ⟨_, rfl, rfl, Nat.le_refl _, Lib.hid (Below.put14 (by repeat (first | with_reducible assumption | with_reducible exact Below.refl _ _ | with_reducible refine Below.drew ?_ | with_reducible refine below_grow ?_ _ | with_reducible refine below_alloc_self ?_ _)) (Nat.le_refl _) _ _ _ _ _ _ _ _ _ _ _ _ _ _), Lib.hid (Blk.put14 (Blk.grow (show Blk (wa.alloc (.cells zero14 49)).drew wa.heap.size 49 zero14 from Blk.new wa 49 zero14) _) _ _ _ _ _ _ _ _ _ _ _ _ _ _)⟩
    case rest =>
      obtain ⟨g6, rfl, rfl, hg6, hbx, hN⟩ := hcut
      have hb6 := H.out.2.2.1.trans (hbx.out.mono (Nat.le_of_lt lca))
      have h26 := H.out.2.1.below hbx.out H.out.2.1.lt
      have H6 := Lib.hid (And.intro h26 hb6)
      have l6 := h26.lt
      clear cb0 fcb0 cb1 fcb1 cb2 fcb2 cb3 fcb3 cb4 fcb4 cb5 fcb5 cb6 fcb6 cb7 fcb7 cb8 fcb8 cb9 fcb9 cb10 fcb10 cb11 fcb11 cb12 fcb12 cb13 fcb13 h26 hb6 hbx HFL KEEP hb0
      have cn0 : wc.cell? ⟨g6, 0, none⟩ = some (.int .i64 k) := (hN.out).cell 0
      have fcn0 := (hN.out).frozen 0
      have cn1 : wc.cell? ⟨g6, 1, none⟩ = some (.slice none 0 0) := (hN.out).cell 1
      have fcn1 := (hN.out).frozen 1
      have cn2 : wc.cell? ⟨g6, 2, none⟩ = some (.int .i64 a) := (hN.out).cell 2
      have fcn2 := (hN.out).frozen 2
      have cn3 : wc.cell? ⟨g6, 3, none⟩ = some (.int .i64 b) := (hN.out).cell 3
      have fcn3 := (hN.out).frozen 3
      have cn4 : wc.cell? ⟨g6, 4, none⟩ = some (.string s) := (hN.out).cell 4
      have fcn4 := (hN.out).frozen 4
      have cn5 : wc.cell? ⟨g6, 5, none⟩ = some (.int .i64 0) := (hN.out).cell 5
      have fcn5 := (hN.out).frozen 5
      have cn6 : wc.cell? ⟨g6, 6, none⟩ = some (.int .i64 0) := (hN.out).cell 6
      have fcn6 := (hN.out).frozen 6
      have cn7 : wc.cell? ⟨g6, 7, none⟩ = some (.int .i64 0) := (hN.out).cell 7
      have fcn7 := (hN.out).frozen 7
      have cn8 : wc.cell? ⟨g6, 8, none⟩ = some (.int .i64 0) := (hN.out).cell 8
      have fcn8 := (hN.out).frozen 8
      have cn9 : wc.cell? ⟨g6, 9, none⟩ = some (.int .i64 0) := (hN.out).cell 9
      have fcn9 := (hN.out).frozen 9
      have cn10 : wc.cell? ⟨g6, 10, none⟩ = some (.slice none 0 0) := (hN.out).cell 10
      have fcn10 := (hN.out).frozen 10
      have cn11 : wc.cell? ⟨g6, 11, none⟩ = some (.string ⟨#[]⟩) := (hN.out).cell 11
      have fcn11 := (hN.out).frozen 11
      have cn12 : wc.cell? ⟨g6, 12, none⟩ = some (.string ⟨#[]⟩) := (hN.out).cell 12
      have fcn12 := (hN.out).frozen 12
      have cn13 : wc.cell? ⟨g6, 13, none⟩ = some (.bool false) := (hN.out).cell 13
      have fcn13 := (hN.out).frozen 13
      have lcn := (hN.out).lt
      have cb0 : wc.cell? ⟨g + 1, 0, none⟩ = some (.int .i64 0) := (H6.out.1).cell 0
      have fcb0 := (H6.out.1).frozen 0
      have cb1 : wc.cell? ⟨g + 1, 1, none⟩ = some (.slice none 0 0) := (H6.out.1).cell 1
      have fcb1 := (H6.out.1).frozen 1
      have cb2 : wc.cell? ⟨g + 1, 2, none⟩ = some (.int .i64 0) := (H6.out.1).cell 2
      have fcb2 := (H6.out.1).frozen 2
      have cb3 : wc.cell? ⟨g + 1, 3, none⟩ = some (.int .i64 0) := (H6.out.1).cell 3
      have fcb3 := (H6.out.1).frozen 3
      have cb4 : wc.cell? ⟨g + 1, 4, none⟩ = some (.string ⟨#[]⟩) := (H6.out.1).cell 4
      have fcb4 := (H6.out.1).frozen 4
      have cb5 : wc.cell? ⟨g + 1, 5, none⟩ = some (.int .i64 0) := (H6.out.1).cell 5
      have fcb5 := (H6.out.1).frozen 5
      have cb6 : wc.cell? ⟨g + 1, 6, none⟩ = some (.int .i64 0) := (H6.out.1).cell 6
      have fcb6 := (H6.out.1).frozen 6
      have cb7 : wc.cell? ⟨g + 1, 7, none⟩ = some (.int .i64 0) := (H6.out.1).cell 7
      have fcb7 := (H6.out.1).frozen 7
      have cb8 : wc.cell? ⟨g + 1, 8, none⟩ = some (.int .i64 0) := (H6.out.1).cell 8
      have fcb8 := (H6.out.1).frozen 8
      have cb9 : wc.cell? ⟨g + 1, 9, none⟩ = some (.int .i64 0) := (H6.out.1).cell 9
      have fcb9 := (H6.out.1).frozen 9
      have cb10 : wc.cell? ⟨g + 1, 10, none⟩ = some (.slice none 0 0) := (H6.out.1).cell 10
      have fcb10 := (H6.out.1).frozen 10
      have cb11 : wc.cell? ⟨g + 1, 11, none⟩ = some (.string ⟨#[]⟩) := (H6.out.1).cell 11
      have fcb11 := (H6.out.1).frozen 11
      have cb12 : wc.cell? ⟨g + 1, 12, none⟩ = some (.string ⟨#[]⟩) := (H6.out.1).cell 12
      have fcb12 := (H6.out.1).frozen 12
      have cb13 : wc.cell? ⟨g + 1, 13, none⟩ = some (.bool false) := (H6.out.1).cell 13
      have fcb13 := (H6.out.1).frozen 13
      have lcb := (H6.out.1).lt
      cases ok with
      | false =>
        have hX2 := hX0 rfl
        go_wp2_with fail
        have hz := blk_puts [.int .i64 0, .slice none 0 0, .int .i64 0, .int .i64 0, .string ⟨#[]⟩, .int .i64 0, .int .i64 0, .int .i64 0, .int .i64 0, .int .i64 0, .slice none 0 0, .string ⟨#[]⟩, .string ⟨#[]⟩, .bool false] zero14.toList (wc) 0 [] H6.out.1 rfl rfl
        have hbz := H6.out.2.trans ((below_put14 [.int .i64 0, .slice none 0 0, .int .i64 0, .int .i64 0, .string ⟨#[]⟩, .int .i64 0, .int .i64 0, .int .i64 0, .int .i64 0, .int .i64 0, .slice none 0 0, .string ⟨#[]⟩, .string ⟨#[]⟩, .bool false] (wc) (g + 1) 0).mono (Nat.le_succ g))
        simp only [puts, Nat.zero_add, Nat.reduceAdd] at hz hbz
        refine bodyPost_ret (v := .tuple #[.agg #[.int .i64 0, .slice none 0 0, .int .i64 0, .int .i64 0, .string ⟨#[]⟩, .int .i64 0, .int .i64 0, .int .i64 0, .int .i64 0, .int .i64 0, .slice none 0 0, .string ⟨#[]⟩, .string ⟨#[]⟩, .bool false], .bool false]) ?_ rfl ?_
        · refine ret_cd2 Try.results134 ?_ ?_ hz rfl
          all_goals rfl
        · refine ⟨?_, by rw [HG.out]; exact hbz⟩
          first | rfl | (rw [hX2]; rfl)
      | true =>
        obtain ⟨L, hL, rfl, hL2⟩ := hX1 rfl
        have HC := Lib.hid (copied0_any 4 a b s wc)
        go_wp2_with fail
        ((with_reducible refine (HC.out).mono ?_); rintro e w' ⟨rfl, hbw⟩)
        obtain ⟨m, rfl⟩ := grow_mk hbw
        clear hbw
        clear hN
        go_wp2_with fail
        have hz := blk_puts [.int .i64 4, .slice none 0 0, .int .i64 a, .int .i64 b, .string s, .int .i64 0, .int .i64 0, .int .i64 0, .int .i64 0, .int .i64 0, .slice none 0 0, .string ⟨#[]⟩, .string ⟨#[]⟩, .bool false] zero14.toList (grow wc m) 0 [] (H6.out.1.grow m) rfl rfl
        have hbz := (H6.out.2.trans ((grow_below m).mono (by have := l6; omega))).trans ((below_put14 [.int .i64 4, .slice none 0 0, .int .i64 a, .int .i64 b, .string s, .int .i64 0, .int .i64 0, .int .i64 0, .int .i64 0, .int .i64 0, .slice none 0 0, .string ⟨#[]⟩, .string ⟨#[]⟩, .bool false] (grow wc m) (g + 1) 0).mono (Nat.le_succ g))
        simp only [puts, Nat.zero_add, Nat.reduceAdd] at hz hbz
        refine bodyPost_ret (v := .tuple #[.agg #[.int .i64 4, .slice none 0 0, .int .i64 a, .int .i64 b, .string s, .int .i64 0, .int .i64 0, .int .i64 0, .int .i64 0, .int .i64 0, .slice none 0 0, .string ⟨#[]⟩, .string ⟨#[]⟩, .bool false], .bool true]) ?_ rfl ?_
        · refine ret_cd2 Try.results134 ?_ ?_ hz rfl
          all_goals rfl
        · refine ⟨?_, by rw [HG.out]; exact hbz⟩
          rw [HXP.out]

end Go.Proofs.Ytgjhaanpkfheeaa

namespace Go.Proofs.Ytgjhaanpkfheeaa
set_option linter.unusedVariables false
set_option linter.unusedSimpArgs false
open Go.RowKit

set_option maxRecDepth 20000 in
set_option maxHeartbeats 8000000 in
theorem kname_off (o7 : Nat) (tk : Int) (tt : List UInt8) (tn td : Int) (ti tid : Bool) (xs : List (Tk × Value)) (oa : Option Addr) (cap bb : Nat) (w : World) (hs : Sl w oa xs.length cap bb o7 7 (xs.flatMap fwcells)) :
    Calls Try.prog 56 #[.agg #[.int .i64 tk, .string ⟨tt.toArray⟩, .int .i64 tn, .int .i64 td, .bool ti, .bool tid, .slice oa xs.length cap]] w fun e w' => e = .returned (toldV (nameT ⟨tk, tt, (tn, td), ti, tid⟩ (xs.map (·.1)))) ∧ Below w.heap.size w w' := by
  obtain ⟨X, hX⟩ : ∃ X, nameT ⟨tk, tt, (tn, td), ti, tid⟩ (xs.map (·.1)) = X := ⟨_, rfl⟩
  rw [hX]
  have hb := below_box w (.cells #[.int .i64 tk, .string ⟨tt.toArray⟩, .int .i64 tn, .int .i64 td, .bool ti, .bool tid, .slice oa xs.length cap] 74)
  have h1 := (Blk.new w 74 #[.int .i64 tk, .string ⟨tt.toArray⟩, .int .i64 tn, .int .i64 td, .bool ti, .bool tid, .slice oa xs.length cap]).old (.cells zero14 49)
  have h2 := Blk.new (w.alloc (.cells #[.int .i64 tk, .string ⟨tt.toArray⟩, .int .i64 tn, .int .i64 td, .bool ti, .bool tid, .slice oa xs.length cap] 74)) 49 zero14
  have hb2 := hb.alloc (by simp) (.cells zero14 49)
  have hs2 : (w.alloc (.cells #[.int .i64 tk, .string ⟨tt.toArray⟩, .int .i64 tn, .int .i64 td, .bool ti, .bool tid, .slice oa xs.length cap] 74)).heap.size = w.heap.size + 1 := by simp
  rw [hs2] at h2
  have H := Lib.hid (And.intro h1 (And.intro h2 hb2))
  have HS := Lib.hid (hs.below hb2)
  clear h1 h2 hb hb2 hs2 hs
  simp only [zero14] at H HS
  obtain ⟨n, hn⟩ : ∃ n, xs.length = n := ⟨_, rfl⟩
  rw [hn] at H HS
  rw [hn]
  have HN := Lib.hid hn
  have HX := Lib.hid hX
  clear hn hX
  go_enter Try.func56, Try.ntmps56
  go_upto_region 1 with fail
  obtain ⟨g, hg⟩ : ∃ g, w.heap.size = g := ⟨_, rfl⟩
  rw [hg] at H
  simp only [hg]
  have HG := Lib.hid hg
  clear hg
  generalize World.alloc (World.alloc w _) _ = wa at *
  obtain ⟨h1, h2, hb⟩ := H.out
  have ca0 : wa.cell? ⟨g, 0, none⟩ = some (.int .i64 tk) := (h1).cell 0
  have fca0 := (h1).frozen 0
  have ca1 : wa.cell? ⟨g, 1, none⟩ = some (.string ⟨tt.toArray⟩) := (h1).cell 1
  have fca1 := (h1).frozen 1
  have ca2 : wa.cell? ⟨g, 2, none⟩ = some (.int .i64 tn) := (h1).cell 2
  have fca2 := (h1).frozen 2
  have ca3 : wa.cell? ⟨g, 3, none⟩ = some (.int .i64 td) := (h1).cell 3
  have fca3 := (h1).frozen 3
  have ca4 : wa.cell? ⟨g, 4, none⟩ = some (.bool ti) := (h1).cell 4
  have fca4 := (h1).frozen 4
  have ca5 : wa.cell? ⟨g, 5, none⟩ = some (.bool tid) := (h1).cell 5
  have fca5 := (h1).frozen 5
  have ca6 : wa.cell? ⟨g, 6, none⟩ = some (.slice oa n cap) := (h1).cell 6
  have fca6 := (h1).frozen 6
  have lca := (h1).lt
  have cb0 : wa.cell? ⟨g + 1, 0, none⟩ = some (.int .i64 0) := (h2).cell 0
  have fcb0 := (h2).frozen 0
  have cb1 : wa.cell? ⟨g + 1, 1, none⟩ = some (.slice none 0 0) := (h2).cell 1
  have fcb1 := (h2).frozen 1
  have cb2 : wa.cell? ⟨g + 1, 2, none⟩ = some (.int .i64 0) := (h2).cell 2
  have fcb2 := (h2).frozen 2
  have cb3 : wa.cell? ⟨g + 1, 3, none⟩ = some (.int .i64 0) := (h2).cell 3
  have fcb3 := (h2).frozen 3
  have cb4 : wa.cell? ⟨g + 1, 4, none⟩ = some (.string ⟨#[]⟩) := (h2).cell 4
  have fcb4 := (h2).frozen 4
  have cb5 : wa.cell? ⟨g + 1, 5, none⟩ = some (.int .i64 0) := (h2).cell 5
  have fcb5 := (h2).frozen 5
  have cb6 : wa.cell? ⟨g + 1, 6, none⟩ = some (.int .i64 0) := (h2).cell 6
  have fcb6 := (h2).frozen 6
  have cb7 : wa.cell? ⟨g + 1, 7, none⟩ = some (.int .i64 0) := (h2).cell 7
  have fcb7 := (h2).frozen 7
  have cb8 : wa.cell? ⟨g + 1, 8, none⟩ = some (.int .i64 0) := (h2).cell 8
  have fcb8 := (h2).frozen 8
  have cb9 : wa.cell? ⟨g + 1, 9, none⟩ = some (.int .i64 0) := (h2).cell 9
  have fcb9 := (h2).frozen 9
  have cb10 : wa.cell? ⟨g + 1, 10, none⟩ = some (.slice none 0 0) := (h2).cell 10
  have fcb10 := (h2).frozen 10
  have cb11 : wa.cell? ⟨g + 1, 11, none⟩ = some (.string ⟨#[]⟩) := (h2).cell 11
  have fcb11 := (h2).frozen 11
  have cb12 : wa.cell? ⟨g + 1, 12, none⟩ = some (.string ⟨#[]⟩) := (h2).cell 12
  have fcb12 := (h2).frozen 12
  have cb13 : wa.cell? ⟨g + 1, 13, none⟩ = some (.bool false) := (h2).cell 13
  have fcb13 := (h2).frozen 13
  have lcb := (h2).lt
  clear h1 h2 hb
  by_cases h21 : tk = 21
  · subst h21
    by_cases hn1 : n = 1
    · subst hn1
      obtain ⟨⟨⟨xk, xt, ⟨xn, xd⟩, xi, xid⟩, xv⟩, rfl⟩ := List.length_eq_one_iff.1 HN.out
      obtain ⟨rfl, hbl⟩ := HS.out.lies (by omega)
      have f0 : wa.cell? ⟨bb, o7, none⟩ = some (.int .i64 xk) := HS.out.cell 0 _ rfl
      have f1 : wa.cell? ⟨bb, o7 + 1, none⟩ = some (.string ⟨xt.toArray⟩) := HS.out.cell 1 _ rfl
      by_cases hk : xk = 1
      · subst hk
        by_cases ht : xt = []
        · have hX2 : X = none := by rw [← HX.out, ht]; rfl
          subst ht
          go_wp2_with fail
          have hz := blk_puts [.int .i64 0, .slice none 0 0, .int .i64 0, .int .i64 0, .string ⟨#[]⟩, .int .i64 0, .int .i64 0, .int .i64 0, .int .i64 0, .int .i64 0, .slice none 0 0, .string ⟨#[]⟩, .string ⟨#[]⟩, .bool false] zero14.toList wa (0) [] H.out.2.1 rfl rfl
          have hbz := H.out.2.2.trans ((below_put14 [.int .i64 0, .slice none 0 0, .int .i64 0, .int .i64 0, .string ⟨#[]⟩, .int .i64 0, .int .i64 0, .int .i64 0, .int .i64 0, .int .i64 0, .slice none 0 0, .string ⟨#[]⟩, .string ⟨#[]⟩, .bool false] wa (g + 1) 0).mono (Nat.le_succ g))
          simp only [puts, Nat.zero_add, Nat.reduceAdd] at hz hbz
          refine bodyPost_ret (v := .tuple #[.agg #[.int .i64 0, .slice none 0 0, .int .i64 0, .int .i64 0, .string ⟨#[]⟩, .int .i64 0, .int .i64 0, .int .i64 0, .int .i64 0, .int .i64 0, .slice none 0 0, .string ⟨#[]⟩, .string ⟨#[]⟩, .bool false], .bool false]) ?_ rfl ?_
          · refine ret_cd2 Try.results56 ?_ ?_ hz rfl
            all_goals rfl
          · refine ⟨?_, by rw [HG.out]; exact hbz⟩
            rw [hX2]
            rfl
        · have hX2 : X = some (3, 0, xt) := by
            rw [← HX.out]
            show (idT [_]).map _ = _
            rw [idT, if_pos ⟨rfl, ht⟩]
            rfl
          have q : (xt == []) = false := by simpa using ht
          have q2 : xt.isEmpty = false := by simpa using ht
          go_wp2_with fail
          have hz := blk_puts [.int .i64 4, .slice none 0 0, .int .i64 3, .int .i64 0, .string ⟨xt.toArray⟩, .int .i64 0, .int .i64 0, .int .i64 0, .int .i64 0, .int .i64 0, .slice none 0 0, .string ⟨#[]⟩, .string ⟨#[]⟩, .bool false] zero14.toList wa (0) [] H.out.2.1 rfl rfl
          have hbz := H.out.2.2.trans ((below_put14 [.int .i64 4, .slice none 0 0, .int .i64 3, .int .i64 0, .string ⟨xt.toArray⟩, .int .i64 0, .int .i64 0, .int .i64 0, .int .i64 0, .int .i64 0, .slice none 0 0, .string ⟨#[]⟩, .string ⟨#[]⟩, .bool false] wa (g + 1) 0).mono (Nat.le_succ g))
          simp only [puts, Nat.zero_add, Nat.reduceAdd] at hz hbz
          refine bodyPost_ret (v := .tuple #[.agg #[.int .i64 4, .slice none 0 0, .int .i64 3, .int .i64 0, .string ⟨xt.toArray⟩, .int .i64 0, .int .i64 0, .int .i64 0, .int .i64 0, .int .i64 0, .slice none 0 0, .string ⟨#[]⟩, .string ⟨#[]⟩, .bool false], .bool true]) ?_ rfl ?_
          · refine ret_cd2 Try.results56 ?_ ?_ hz rfl
            all_goals rfl
          · refine ⟨?_, by rw [HG.out]; exact hbz⟩
            rw [hX2]
            rfl
      · have gk : (xk == 1) = false := by simpa using hk
        have hX2 : X = none := by
          rw [← HX.out]
          show (idT [_]).map _ = _
          rw [idT, if_neg (fun h => hk h.1)]
          rfl
        go_wp2_with fail
        have hz := blk_puts [.int .i64 0, .slice none 0 0, .int .i64 0, .int .i64 0, .string ⟨#[]⟩, .int .i64 0, .int .i64 0, .int .i64 0, .int .i64 0, .int .i64 0, .slice none 0 0, .string ⟨#[]⟩, .string ⟨#[]⟩, .bool false] zero14.toList wa (0) [] H.out.2.1 rfl rfl
        have hbz := H.out.2.2.trans ((below_put14 [.int .i64 0, .slice none 0 0, .int .i64 0, .int .i64 0, .string ⟨#[]⟩, .int .i64 0, .int .i64 0, .int .i64 0, .int .i64 0, .int .i64 0, .slice none 0 0, .string ⟨#[]⟩, .string ⟨#[]⟩, .bool false] wa (g + 1) 0).mono (Nat.le_succ g))
        simp only [puts, Nat.zero_add, Nat.reduceAdd] at hz hbz
        refine bodyPost_ret (v := .tuple #[.agg #[.int .i64 0, .slice none 0 0, .int .i64 0, .int .i64 0, .string ⟨#[]⟩, .int .i64 0, .int .i64 0, .int .i64 0, .int .i64 0, .int .i64 0, .slice none 0 0, .string ⟨#[]⟩, .string ⟨#[]⟩, .bool false], .bool false]) ?_ rfl ?_
        · refine ret_cd2 Try.results56 ?_ ?_ hz rfl
          all_goals rfl
        · refine ⟨?_, by rw [HG.out]; exact hbz⟩
          rw [hX2]
          rfl
    · have gN : ((n : Int) == 1) = false := by rw [beq_eq_false_iff_ne]; omega
      have gNn : (n == 1) = false := by rw [beq_eq_false_iff_ne]; omega
      have hX2 : X = none := by
        rw [← HX.out]
        have hn := HN.out
        show (idT (xs.map (·.1))).map _ = _
        match xs with
        | [] => rfl
        | [x] => exact absurd hn.symm (by simpa using hn1)
        | x :: y :: r => rfl
      go_wp2_with fail
      have hz := blk_puts [.int .i64 0, .slice none 0 0, .int .i64 0, .int .i64 0, .string ⟨#[]⟩, .int .i64 0, .int .i64 0, .int .i64 0, .int .i64 0, .int .i64 0, .slice none 0 0, .string ⟨#[]⟩, .string ⟨#[]⟩, .bool false] zero14.toList wa (0) [] H.out.2.1 rfl rfl
      have hbz := H.out.2.2.trans ((below_put14 [.int .i64 0, .slice none 0 0, .int .i64 0, .int .i64 0, .string ⟨#[]⟩, .int .i64 0, .int .i64 0, .int .i64 0, .int .i64 0, .int .i64 0, .slice none 0 0, .string ⟨#[]⟩, .string ⟨#[]⟩, .bool false] wa (g + 1) 0).mono (Nat.le_succ g))
      simp only [puts, Nat.zero_add, Nat.reduceAdd] at hz hbz
      refine bodyPost_ret (v := .tuple #[.agg #[.int .i64 0, .slice none 0 0, .int .i64 0, .int .i64 0, .string ⟨#[]⟩, .int .i64 0, .int .i64 0, .int .i64 0, .int .i64 0, .int .i64 0, .slice none 0 0, .string ⟨#[]⟩, .string ⟨#[]⟩, .bool false], .bool false]) ?_ rfl ?_
      · refine ret_cd2 Try.results56 ?_ ?_ hz rfl
        all_goals rfl
      · refine ⟨?_, by rw [HG.out]; exact hbz⟩
        rw [hX2]
        rfl
  · have g0 : (tk == 21) = false := by simpa using h21
    by_cases h2 : tk = 2
    · subst h2
      by_cases hq : tt = [111, 102]
      · have hX2 : X = some (1, 2, []) := by rw [← HX.out, hq]; rfl
        have q : (tt == [111, 102]) = true := by rw [hq]; rfl
        go_wp2_with fail
        have hz := blk_puts [.int .i64 4, .slice none 0 0, .int .i64 1, .int .i64 2, .string ⟨#[]⟩, .int .i64 0, .int .i64 0, .int .i64 0, .int .i64 0, .int .i64 0, .slice none 0 0, .string ⟨#[]⟩, .string ⟨#[]⟩, .bool false] zero14.toList wa (0) [] H.out.2.1 rfl rfl
        have hbz := H.out.2.2.trans ((below_put14 [.int .i64 4, .slice none 0 0, .int .i64 1, .int .i64 2, .string ⟨#[]⟩, .int .i64 0, .int .i64 0, .int .i64 0, .int .i64 0, .int .i64 0, .slice none 0 0, .string ⟨#[]⟩, .string ⟨#[]⟩, .bool false] wa (g + 1) 0).mono (Nat.le_succ g))
        simp only [puts, Nat.zero_add, Nat.reduceAdd] at hz hbz
        refine bodyPost_ret (v := .tuple #[.agg #[.int .i64 4, .slice none 0 0, .int .i64 1, .int .i64 2, .string ⟨#[]⟩, .int .i64 0, .int .i64 0, .int .i64 0, .int .i64 0, .int .i64 0, .slice none 0 0, .string ⟨#[]⟩, .string ⟨#[]⟩, .bool false], .bool true]) ?_ rfl ?_
        · refine ret_cd2 Try.results56 ?_ ?_ hz rfl
          all_goals rfl
        · refine ⟨?_, by rw [HG.out]; exact hbz⟩
          rw [hX2]
          rfl
      · have hX2 : X = none := by
          rw [← HX.out]
          show (if (2 : Int) = 21 then (idT (xs.map (·.1))).map (fun s => ((3, 0, s) : Int × Int × List UInt8)) else if (2 : Int) = 2 ∧ tt = [111, 102] then some (1, 2, []) else none) = none
          rw [if_neg (by decide), if_neg (fun h => hq h.2)]
        have q : (tt == [111, 102]) = false := by simpa using hq
        go_wp2_with fail
        have hz := blk_puts [.int .i64 0, .slice none 0 0, .int .i64 0, .int .i64 0, .string ⟨#[]⟩, .int .i64 0, .int .i64 0, .int .i64 0, .int .i64 0, .int .i64 0, .slice none 0 0, .string ⟨#[]⟩, .string ⟨#[]⟩, .bool false] zero14.toList wa (0) [] H.out.2.1 rfl rfl
        have hbz := H.out.2.2.trans ((below_put14 [.int .i64 0, .slice none 0 0, .int .i64 0, .int .i64 0, .string ⟨#[]⟩, .int .i64 0, .int .i64 0, .int .i64 0, .int .i64 0, .int .i64 0, .slice none 0 0, .string ⟨#[]⟩, .string ⟨#[]⟩, .bool false] wa (g + 1) 0).mono (Nat.le_succ g))
        simp only [puts, Nat.zero_add, Nat.reduceAdd] at hz hbz
        refine bodyPost_ret (v := .tuple #[.agg #[.int .i64 0, .slice none 0 0, .int .i64 0, .int .i64 0, .string ⟨#[]⟩, .int .i64 0, .int .i64 0, .int .i64 0, .int .i64 0, .int .i64 0, .slice none 0 0, .string ⟨#[]⟩, .string ⟨#[]⟩, .bool false], .bool false]) ?_ rfl ?_
        · refine ret_cd2 Try.results56 ?_ ?_ hz rfl
          all_goals rfl
        · refine ⟨?_, by rw [HG.out]; exact hbz⟩
          rw [hX2]
          rfl
    · have g1 : (tk == 2) = false := by simpa using h2
      have hX2 : X = none := by
        rw [← HX.out]
        show (if tk = 21 then _ else if tk = 2 ∧ tt = [111, 102] then _ else _) = _
        rw [if_neg h21, if_neg (fun h => h2 h.1)]
      go_wp2_with fail
      have hz := blk_puts [.int .i64 0, .slice none 0 0, .int .i64 0, .int .i64 0, .string ⟨#[]⟩, .int .i64 0, .int .i64 0, .int .i64 0, .int .i64 0, .int .i64 0, .slice none 0 0, .string ⟨#[]⟩, .string ⟨#[]⟩, .bool false] zero14.toList wa (0) [] H.out.2.1 rfl rfl
      have hbz := H.out.2.2.trans ((below_put14 [.int .i64 0, .slice none 0 0, .int .i64 0, .int .i64 0, .string ⟨#[]⟩, .int .i64 0, .int .i64 0, .int .i64 0, .int .i64 0, .int .i64 0, .slice none 0 0, .string ⟨#[]⟩, .string ⟨#[]⟩, .bool false] wa (g + 1) 0).mono (Nat.le_succ g))
      simp only [puts, Nat.zero_add, Nat.reduceAdd] at hz hbz
      refine bodyPost_ret (v := .tuple #[.agg #[.int .i64 0, .slice none 0 0, .int .i64 0, .int .i64 0, .string ⟨#[]⟩, .int .i64 0, .int .i64 0, .int .i64 0, .int .i64 0, .int .i64 0, .slice none 0 0, .string ⟨#[]⟩, .string ⟨#[]⟩, .bool false], .bool false]) ?_ rfl ?_
      · refine ret_cd2 Try.results56 ?_ ?_ hz rfl
        all_goals rfl
      · refine ⟨?_, by rw [HG.out]; exact hbz⟩
        rw [hX2]
        rfl

end Go.Proofs.Ytgjhaanpkfheeaa
