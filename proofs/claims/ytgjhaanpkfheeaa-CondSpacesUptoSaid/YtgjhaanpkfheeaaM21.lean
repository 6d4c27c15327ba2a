/- Of my texts: ToldP, Part, QSame. -/
import Derived.Test.YtgjhaanpkfheeaaM10
import Derived.Test.YtgjhaanpkfheeaaM18
import Derived.Test.YtgjhaanpkfheeaaM19
import Derived.Test.YtgjhaanpkfheeaaM20
import Derived.Deep.RegionHeld3
namespace Go.Proofs.Ytgjhaanpkfheeaa
set_option linter.unusedVariables false
set_option linter.unusedSimpArgs false
open Go.RowKit

theorem leaf_nil0 (f : Fn) (a c : Array Value) (w : World) (d : Nat) : (Op.equalIn (d + 1) 65 (.func f a c) .nilFunc).run Try.prog w = .ok false w := by
  simp [Op.equalIn, run_underlying Try.underlying65]
theorem leaf_none0 (w : World) (d : Nat) : (Op.equalIn (d + 1) 65 .nilFunc .nilFunc).run Try.prog w = .ok true w := by
  simp [Op.equalIn, run_underlying Try.underlying65]
@[go_sem] theorem leaf_nil (f : Fn) (a c : Array Value) (w : World) : Sem.run Try.prog (binOp .eql 65 (.func f a c) .nilFunc) w = .ok (.bool false) w := by
  have h2 : (Op.equal 65 (.func f a c) .nilFunc).run Try.prog w = .ok false w := leaf_nil0 f a c w 9999
  simp only [binOp]
  simp [h2]
@[go_sem] theorem leaf_none (w : World) : Sem.run Try.prog (binOp .eql 65 .nilFunc .nilFunc) w = .ok (.bool true) w := by
  have h2 : (Op.equal 65 .nilFunc .nilFunc).run Try.prog w = .ok true w := leaf_none0 w 9999
  simp only [binOp]
  simp [h2]

theorem Blk.put14 {w : World} {g : Nat} {t : TypeId} (h : Blk w g t zero14) (v0 v1 v2 v3 v4 v5 v6 v7 v8 v9 v10 v11 v12 v13 : Value) : Blk (((((((((((((((w).setCell ⟨g, 0, none⟩ v0).setCell ⟨g, 1, none⟩ v1).setCell ⟨g, 2, none⟩ v2).setCell ⟨g, 3, none⟩ v3).setCell ⟨g, 4, none⟩ v4).setCell ⟨g, 5, none⟩ v5).setCell ⟨g, 6, none⟩ v6).setCell ⟨g, 7, none⟩ v7).setCell ⟨g, 8, none⟩ v8).setCell ⟨g, 9, none⟩ v9).setCell ⟨g, 10, none⟩ v10).setCell ⟨g, 11, none⟩ v11).setCell ⟨g, 12, none⟩ v12).setCell ⟨g, 13, none⟩ v13) g t #[v0, v1, v2, v3, v4, v5, v6, v7, v8, v9, v10, v11, v12, v13] := by
  have hz := blk_puts [v0, v1, v2, v3, v4, v5, v6, v7, v8, v9, v10, v11, v12, v13] zero14.toList w 0 [] h rfl rfl
  simp only [puts, Nat.zero_add, Nat.reduceAdd] at hz
  exact hz
theorem Below.put14 {B : Nat} {w0 w : World} {g : Nat} (h : Below B w0 w) (hg : B ≤ g) (v0 v1 v2 v3 v4 v5 v6 v7 v8 v9 v10 v11 v12 v13 : Value) : Below B w0 (((((((((((((((w).setCell ⟨g, 0, none⟩ v0).setCell ⟨g, 1, none⟩ v1).setCell ⟨g, 2, none⟩ v2).setCell ⟨g, 3, none⟩ v3).setCell ⟨g, 4, none⟩ v4).setCell ⟨g, 5, none⟩ v5).setCell ⟨g, 6, none⟩ v6).setCell ⟨g, 7, none⟩ v7).setCell ⟨g, 8, none⟩ v8).setCell ⟨g, 9, none⟩ v9).setCell ⟨g, 10, none⟩ v10).setCell ⟨g, 11, none⟩ v11).setCell ⟨g, 12, none⟩ v12).setCell ⟨g, 13, none⟩ v13) := by
  have hz := h.trans ((below_put14 [v0, v1, v2, v3, v4, v5, v6, v7, v8, v9, v10, v11, v12, v13] w g 0).mono hg)
  simp only [puts, Nat.zero_add, Nat.reduceAdd] at hz
  exact hz

/-- the reader's function -/
def leafV (b : Bool) : Value := if b then .func (.func 56) #[] #[] else .nilFunc

set_option maxRecDepth 20000 in
set_option maxHeartbeats 8000000 in
theorem ktold_any (bq : Bool) (gR h : Nat) (tk : Int) (tt : List UInt8) (tn td : Int) (ti tid : Bool) (oa : Option Addr) (cap bb o : Nat) (l : List Vl) (w : World) (hR : Blk w gR 97 #[leafV bq]) (hs : VsIn w h oa cap bb o l) (hm : ∃ n, mayV n (l.map Vl.c) = true) (hz : szV (l.map Vl.c) ≤ 1073741824) :
    Calls Try.prog 134 #[.pointer (some ⟨gR, 0, none⟩), .agg #[.int .i64 tk, .string ⟨tt.toArray⟩, .int .i64 tn, .int .i64 td, .bool ti, .bool tid, .slice oa l.length cap]] w fun e w' => e = .returned (toldV (leafF bq (.mk ⟨tk, tt, (tn, td), ti, tid⟩ (l.map Vl.c)))) ∧ Below w.heap.size w w' := by
  obtain ⟨X, hX⟩ : ∃ X, leafF bq (.mk ⟨tk, tt, (tn, td), ti, tid⟩ (l.map Vl.c)) = X := ⟨_, rfl⟩
  rw [hX]
  obtain ⟨n, hn⟩ : ∃ n, l.length = n := ⟨_, rfl⟩
  have hb := below_box w (.cells #[.int .i64 tk, .string ⟨tt.toArray⟩, .int .i64 tn, .int .i64 td, .bool ti, .bool tid, .slice oa n cap] 74)
  have h1 := (Blk.new w 74 #[.int .i64 tk, .string ⟨tt.toArray⟩, .int .i64 tn, .int .i64 td, .bool ti, .bool tid, .slice oa n cap]).old (.cells zero14 49)
  have h2 := Blk.new (w.alloc (.cells #[.int .i64 tk, .string ⟨tt.toArray⟩, .int .i64 tn, .int .i64 td, .bool ti, .bool tid, .slice oa n cap] 74)) 49 zero14
  have hb2 := hb.alloc (by simp) (.cells zero14 49)
  have hs2 : (w.alloc (.cells #[.int .i64 tk, .string ⟨tt.toArray⟩, .int .i64 tn, .int .i64 td, .bool ti, .bool tid, .slice oa n cap] 74)).heap.size = w.heap.size + 1 := by simp
  rw [hs2] at h2
  have H := Lib.hid (And.intro h1 (And.intro h2 (And.intro hb2 (hR.below hb2 hR.lt))))
  have HS := Lib.hid (And.intro (hs.below hb2) (And.intro hz (And.intro hm hn)))
  have hRg := hR.lt
  clear h1 h2 hb hb2 hs2 hs hR hm hz
  simp only [zero14] at H HS
  rw [hn]
  clear hn
  have HX := Lib.hid hX
  clear hX
  go_enter Try.func134, Try.ntmps134
  go_upto_region 1 with fail
  obtain ⟨g, hg⟩ : ∃ g, w.heap.size = g := ⟨_, rfl⟩
  rw [hg] at H hRg
  simp only [hg]
  have HG := Lib.hid hg
  clear hg
  generalize World.alloc (World.alloc w _) _ = wa at *
  obtain ⟨h1, h2, hb, hR⟩ := H.out
  have ca0 : wa.cell? ⟨g, 0, none⟩ = some (.int .i64 tk) := (h1).cell 0
  have fca0 := (h1).frozen 0
  have ca1 : wa.cell? ⟨g, 1, none⟩ = some (.string ⟨tt.toArray⟩) := (h1).cell 1
  have fca1 := (h1).frozen 1
  have ca2 : wa.cell? ⟨g, 2, none⟩ = some (.int .i64 tn) := (h1).cell 2
  have fca2 := (h1).frozen 2
  have ca3 : wa.cell? ⟨g, 3, none⟩ = some (.int .i64 td) := (h1).cell 3
  have fca3 := (h1).frozen 3
  have ca4 : wa.cell? ⟨g, 4, none⟩ = some (.bool ti) := (h1).cell 4
  have fca4 := (h1).frozen 4
  have ca5 : wa.cell? ⟨g, 5, none⟩ = some (.bool tid) := (h1).cell 5
  have fca5 := (h1).frozen 5
  have ca6 : wa.cell? ⟨g, 6, none⟩ = some (.slice oa n cap) := (h1).cell 6
  have fca6 := (h1).frozen 6
  have lca := (h1).lt
  have cb0 : wa.cell? ⟨g + 1, 0, none⟩ = some (.int .i64 0) := (h2).cell 0
  have fcb0 := (h2).frozen 0
  have cb1 : wa.cell? ⟨g + 1, 1, none⟩ = some (.slice none 0 0) := (h2).cell 1
  have fcb1 := (h2).frozen 1
  have cb2 : wa.cell? ⟨g + 1, 2, none⟩ = some (.int .i64 0) := (h2).cell 2
  have fcb2 := (h2).frozen 2
  have cb3 : wa.cell? ⟨g + 1, 3, none⟩ = some (.int .i64 0) := (h2).cell 3
  have fcb3 := (h2).frozen 3
  have cb4 : wa.cell? ⟨g + 1, 4, none⟩ = some (.string ⟨#[]⟩) := (h2).cell 4
  have fcb4 := (h2).frozen 4
  have cb5 : wa.cell? ⟨g + 1, 5, none⟩ = some (.int .i64 0) := (h2).cell 5
  have fcb5 := (h2).frozen 5
  have cb6 : wa.cell? ⟨g + 1, 6, none⟩ = some (.int .i64 0) := (h2).cell 6
  have fcb6 := (h2).frozen 6
  have cb7 : wa.cell? ⟨g + 1, 7, none⟩ = some (.int .i64 0) := (h2).cell 7
  have fcb7 := (h2).frozen 7
  have cb8 : wa.cell? ⟨g + 1, 8, none⟩ = some (.int .i64 0) := (h2).cell 8
  have fcb8 := (h2).frozen 8
  have cb9 : wa.cell? ⟨g + 1, 9, none⟩ = some (.int .i64 0) := (h2).cell 9
  have fcb9 := (h2).frozen 9
  have cb10 : wa.cell? ⟨g + 1, 10, none⟩ = some (.slice none 0 0) := (h2).cell 10
  have fcb10 := (h2).frozen 10
  have cb11 : wa.cell? ⟨g + 1, 11, none⟩ = some (.string ⟨#[]⟩) := (h2).cell 11
  have fcb11 := (h2).frozen 11
  have cb12 : wa.cell? ⟨g + 1, 12, none⟩ = some (.string ⟨#[]⟩) := (h2).cell 12
  have fcb12 := (h2).frozen 12
  have cb13 : wa.cell? ⟨g + 1, 13, none⟩ = some (.bool false) := (h2).cell 13
  have fcb13 := (h2).frozen 13
  have lcb := (h2).lt
  have cr0 : wa.cell? ⟨gR, 0, none⟩ = some (leafV bq) := hR.cell 0
  have lr := hR.lt
  clear h1 h2 hb hR
  cases bq with
  | false =>
    have hX2 : X = none := HX.out.symm
    simp only [leafV, Bool.false_eq_true, if_false] at cr0
    go_wp2_with fail
    have hz := blk_puts [.int .i64 0, .slice none 0 0, .int .i64 0, .int .i64 0, .string ⟨#[]⟩, .int .i64 0, .int .i64 0, .int .i64 0, .int .i64 0, .int .i64 0, .slice none 0 0, .string ⟨#[]⟩, .string ⟨#[]⟩, .bool false] zero14.toList wa 0 [] H.out.2.1 rfl rfl
    have hbz := H.out.2.2.1.trans ((below_put14 [.int .i64 0, .slice none 0 0, .int .i64 0, .int .i64 0, .string ⟨#[]⟩, .int .i64 0, .int .i64 0, .int .i64 0, .int .i64 0, .int .i64 0, .slice none 0 0, .string ⟨#[]⟩, .string ⟨#[]⟩, .bool false] wa (g + 1) 0).mono (Nat.le_succ g))
    simp only [puts, Nat.zero_add, Nat.reduceAdd] at hz hbz
    refine bodyPost_ret (v := .tuple #[.agg #[.int .i64 0, .slice none 0 0, .int .i64 0, .int .i64 0, .string ⟨#[]⟩, .int .i64 0, .int .i64 0, .int .i64 0, .int .i64 0, .int .i64 0, .slice none 0 0, .string ⟨#[]⟩, .string ⟨#[]⟩, .bool false], .bool false]) ?_ rfl ?_
    · refine ret_cd2 Try.results134 ?_ ?_ hz rfl
      all_goals rfl
    · refine ⟨?_, by rw [HG.out]; exact hbz⟩
      rw [hX2]
      rfl
  | true =>
    simp only [leafV, if_true] at cr0
    go_upto_region 3 with fail
    have hb0 : Below wa.heap.size wa wa := Below.refl _ _
    have KEEP := Lib.hid (show ∀ wx, Below wa.heap.size wa wx → wx.cell? ⟨gR, 0, none⟩ = some (.func (.func 56) #[] #[]) ∧ wx.cell? ⟨g, 0, none⟩ = some (.int .i64 tk) ∧ wx.cell? ⟨g, 1, none⟩ = some (.string ⟨tt.toArray⟩) ∧ wx.cell? ⟨g, 2, none⟩ = some (.int .i64 tn) ∧ wx.cell? ⟨g, 3, none⟩ = some (.int .i64 td) ∧ wx.cell? ⟨g, 4, none⟩ = some (.bool ti) ∧ wx.cell? ⟨g, 5, none⟩ = some (.bool tid) ∧ wx.cell? ⟨g, 6, none⟩ = some (.slice oa n cap) from
      fun wx hx => ⟨(hx.cell (p := ⟨gR, 0, none⟩) lr).trans cr0, (hx.cell (p := ⟨g, 0, none⟩) lca).trans ca0, (hx.cell (p := ⟨g, 1, none⟩) lca).trans ca1, (hx.cell (p := ⟨g, 2, none⟩) lca).trans ca2, (hx.cell (p := ⟨g, 3, none⟩) lca).trans ca3, (hx.cell (p := ⟨g, 4, none⟩) lca).trans ca4, (hx.cell (p := ⟨g, 5, none⟩) lca).trans ca5, (hx.cell (p := ⟨g, 6, none⟩) lca).trans ca6⟩)
    have HFL := Lib.hid (show ∀ wx, Below wa.heap.size wa wx → Calls Try.prog 139 #[.slice oa n cap] wx fun e w' => ∃ v, e = .returned v ∧ Below wx.heap.size wx w' ∧ Below wa.heap.size wa w' ∧ Hid (∀ wy, Below w'.heap.size w' wy → Calls Try.prog 138 #[v] wy fun e w2 => ∃ (a2 : Option Addr) (n2 c2 : Nat), e = .returned (.slice a2 n2 c2) ∧ Below wy.heap.size wy w2 ∧ Below wa.heap.size wa w2 ∧ Hid (∀ wz, Below w2.heap.size w2 wz → Calls Try.prog 56 #[.agg #[.int .i64 tk, .string ⟨tt.toArray⟩, .int .i64 tn, .int .i64 td, .bool ti, .bool tid, .slice a2 n2 c2]] wz fun e w3 => e = .returned (toldV X) ∧ Below wz.heap.size wz w3 ∧ Below wa.heap.size wa w3)) from fun wx hx => by
      obtain ⟨hvs, hz, ⟨nm, hm⟩, hn⟩ := HS.out
      have := rflat_any h l oa cap bb o wx (hvs.below hx) hz
      rw [hn] at this
      refine this.mono ?_
      rintro e w' ⟨v, rfl, hr⟩
      have hA1 := hx.trans (hr.below.mono hx.size)
      refine ⟨v, rfl, hr.below, hA1, Lib.hid fun wy hy => ?_⟩
      obtain ⟨oa1, cap1, g1, rfl, hsl, _⟩ := sl_of_own (owns_belowW hr.own hy)
      have hln : (flatV (l.map Vl.c)).length ≤ 274877906944 := by have := flatV_len (l.map Vl.c); omega
      refine (rvalues_any _ oa1 cap1 g1 0 wy hsl hln).mono ?_
      rintro e w2 ⟨⟨v2, xs, rfl, ho2, hxs⟩, hb2⟩
      have hA2 := hA1.trans (hy.mono hA1.size)
      have hA3 := hA2.trans (hb2.mono hA2.size)
      obtain ⟨oa2, cap2, g2, rfl, _, _⟩ := sl_of_own ho2
      refine ⟨_, _, _, rfl, hb2, hA3, Lib.hid fun wz hz2 => ?_⟩
      obtain ⟨oa3, cap3, g3, e3, hsl2, _⟩ := sl_of_own (owns_belowW ho2 hz2)
      injection e3 with e31 _ e33
      subst e31 e33
      have := kname_any tk tt tn td ti tid xs _ _ g3 wz hsl2
      rw [hxs, name_flat _ _ (may_head hm)] at this
      rw [← HX.out]
      refine this.mono ?_
      rintro e w3 ⟨rfl, hb3⟩
      have hA4 := hA3.trans (hz2.mono hA3.size)
      exact ⟨rfl, hb3, hA4.trans (hb3.mono hA4.size)⟩)
    obtain ⟨k, a, b, s, ok, hXp, hX1, hX0⟩ := told_parts X
    have HXP := Lib.hid hXp
    clear cr0 ca0 fca0 ca1 fca1 ca2 fca2 ca3 fca3 ca4 fca4 ca5 fca5 ca6 fca6
    go_cut [6, 7] from 14 to 28 (fun s6 s7 wx => ∃ g6 : Nat, s6 = .pointer (some ⟨g6, 0, none⟩) ∧ s7 = .bool ok ∧ wa.heap.size ≤ g6 ∧ Hid (Below wa.heap.size wa wx) ∧ Hid (Blk wx g6 49 #[.int .i64 k, .slice none 0 0, .int .i64 a, .int .i64 b, .string s, .int .i64 0, .int .i64 0, .int .i64 0, .int .i64 0, .int .i64 0, .slice none 0 0, .string ⟨#[]⟩, .string ⟨#[]⟩, .bool false]))
    case first =>
      go_region_held3 (fun wx => wx.cell? ⟨gR, 0, none⟩ = some (.func (.func 56) #[] #[]) ∧ wx.cell? ⟨g, 0, none⟩ = some (.int .i64 tk) ∧ wx.cell? ⟨g, 1, none⟩ = some (.string ⟨tt.toArray⟩) ∧ wx.cell? ⟨g, 2, none⟩ = some (.int .i64 tn) ∧ wx.cell? ⟨g, 3, none⟩ = some (.int .i64 td) ∧ wx.cell? ⟨g, 4, none⟩ = some (.bool ti) ∧ wx.cell? ⟨g, 5, none⟩ = some (.bool tid) ∧ wx.cell? ⟨g, 6, none⟩ = some (.slice oa n cap)) (exact KEEP.out _ (by repeat (first | with_reducible assumption | with_reducible exact Below.refl _ _ | with_reducible refine Below.drew ?_ | with_reducible refine below_grow ?_ _ | with_reducible refine below_alloc_self ?_ _ | (with_reducible refine Below.setCell ?_ ?hq _; case hq => (dsimp only; first | (simp; done) | (refine Below.size (B := wa.heap.size) (w := wa) ?_; repeat (first | with_reducible assumption | with_reducible exact Below.refl _ _ | with_reducible refine Below.drew ?_ | with_reducible refine below_grow ?_ _ | with_reducible refine below_alloc_self ?_ _))))))) (first | (go_at_call 139; (with_reducible refine (HFL.out _ (by repeat (first | with_reducible assumption | with_reducible exact Below.refl _ _ | with_reducible refine Below.drew ?_ | with_reducible refine below_alloc_self ?_ _))).mono ?_); rintro e w1 ⟨v1, rfl, hb1, hA1, HV1⟩; obtain ⟨m1, rfl⟩ := grow_mk hb1; clear hb1) | (go_at_call 138; (with_reducible refine (HV1.out _ (by repeat (first | with_reducible assumption | with_reducible exact Below.refl _ _ | with_reducible refine Below.drew ?_ | with_reducible refine below_alloc_self ?_ _))).mono ?_); rintro e w2 ⟨a2, n2, c2, rfl, hb2, hA2, HN2⟩; (first | obtain ⟨m2, rfl⟩ := grow_mk ((grow_below _).trans (hb2.mono (grow_size _))) | obtain ⟨m2, rfl⟩ := grow_mk hb2); clear hb2) | (go_at_call 56; (with_reducible refine (HN2.out _ (by repeat (first | with_reducible assumption | with_reducible exact Below.refl _ _ | with_reducible refine Below.drew ?_ | with_reducible refine below_alloc_self ?_ _))).mono ?_); rintro e w3 ⟨he3, hb3, hA3⟩; rw [HXP.out] at he3; subst he3; (first | obtain ⟨m3, rfl⟩ := grow_mk ((grow_below _).trans (hb3.mono (grow_size _))) | obtain ⟨m3, rfl⟩ := grow_mk hb3); clear hb3))
      · go_wp2_with fail
        go_meet
        exact ⟨_, rfl, rfl, (Below.size (B := wa.heap.size) (w := wa) (by repeat (first | with_reducible assumption | with_reducible exact Below.refl _ _ | with_reducible refine Below.drew ?_ | with_reducible refine below_grow ?_ _ | with_reducible refine below_alloc_self ?_ _))), Lib.hid (by repeat (first | with_reducible assumption | with_reducible exact Below.refl _ _ | with_reducible refine Below.drew ?_ | with_reducible refine below_grow ?_ _ | with_reducible refine below_alloc_self ?_ _)), Lib.hid (Blk.new _ _ _)⟩
      · go_wp2_with fail
        go_meet
        exact ⟨_, rfl, rfl, (Below.size (B := wa.heap.size) (w := wa) (by repeat (first | with_reducible assumption | with_reducible exact Below.refl _ _ | with_reducible refine Below.drew ?_ | with_reducible refine below_grow ?_ _ | with_reducible refine below_alloc_self ?_ _))), Lib.hid (Below.put14 (by repeat (first | with_reducible assumption | with_reducible exact Below.refl _ _ | with_reducible refine Below.drew ?_ | with_reducible refine below_grow ?_ _ | with_reducible refine below_alloc_self ?_ _)) (Below.size (B := wa.heap.size) (w := wa) (by repeat (first | with_reducible assumption | with_reducible exact Below.refl _ _ | with_reducible refine Below.drew ?_ | with_reducible refine below_grow ?_ _ | with_reducible refine below_alloc_self ?_ _))) _ _ _ _ _ _ _ _ _ _ _ _ _ _), Lib.hid (Blk.put14 (Blk.grow (Blk.new _ _ _) _) _ _ _ _ _ _ _ _ _ _ _ _ _ _)⟩
      · go_wp2_with fail
        go_meet
        exact ⟨_, rfl, rfl, (Below.size (B := wa.heap.size) (w := wa) (by repeat (first | with_reducible assumption | with_reducible exact Below.refl _ _ | with_reducible refine Below.drew ?_ | with_reducible refine below_grow ?_ _ | with_reducible refine below_alloc_self ?_ _))), Lib.hid (Below.put14 (by repeat (first | with_reducible assumption | with_reducible exact Below.refl _ _ | with_reducible refine Below.drew ?_ | with_reducible refine below_grow ?_ _ | with_reducible refine below_alloc_self ?_ _)) (Below.size (B := wa.heap.size) (w := wa) (by repeat (first | with_reducible assumption | with_reducible exact Below.refl _ _ | with_reducible refine Below.drew ?_ | with_reducible refine below_grow ?_ _ | with_reducible refine below_alloc_self ?_ _))) _ _ _ _ _ _ _ _ _ _ _ _ _ _), Lib.hid (Blk.put14 (Blk.grow (Blk.new _ _ _) _) _ _ _ _ _ _ _ _ _ _ _ _ _ _)⟩
      · go_wp2_with fail
        go_meet
        exact ⟨_, rfl, rfl, Nat.le_refl _, Lib.hid (Below.put14 (by repeat (first | with_reducible assumption | with_reducible exact Below.refl _ _ | with_reducible refine Below.drew ?_ | with_reducible refine below_grow ?_ _ | with_reducible refine below_alloc_self ?_ _)) (Nat.le_refl _) _ _ _ _ _ _ _ _ _ _ _ _ _ _), Lib.hid (Blk.put14 (Blk.grow (show Blk (wa.alloc (.cells zero14 49)).drew wa.heap.size 49 zero14 from Blk.new wa 49 zero14) _) _ _ _ _ _ _ _ _ _ _ _ _ _ _)⟩
    case rest =>
      obtain ⟨g6, rfl, rfl, hg6, hbx, hN⟩ := hcut
      have hb6 := H.out.2.2.1.trans (hbx.out.mono (Nat.le_of_lt lca))
      have h26 := H.out.2.1.below hbx.out H.out.2.1.lt
      have H6 := Lib.hid (And.intro h26 hb6)
      have l6 := h26.lt
      clear cb0 fcb0 cb1 fcb1 cb2 fcb2 cb3 fcb3 cb4 fcb4 cb5 fcb5 cb6 fcb6 cb7 fcb7 cb8 fcb8 cb9 fcb9 cb10 fcb10 cb11 fcb11 cb12 fcb12 cb13 fcb13 h26 hb6 hbx HFL KEEP hb0
      have cn0 : wc.cell? ⟨g6, 0, none⟩ = some (.int .i64 k) := (hN.out).cell 0
      have fcn0 := (hN.out).frozen 0
      have cn1 : wc.cell? ⟨g6, 1, none⟩ = some (.slice none 0 0) := (hN.out).cell 1
      have fcn1 := (hN.out).frozen 1
      have cn2 : wc.cell? ⟨g6, 2, none⟩ = some (.int .i64 a) := (hN.out).cell 2
      have fcn2 := (hN.out).frozen 2
      have cn3 : wc.cell? ⟨g6, 3, none⟩ = some (.int .i64 b) := (hN.out).cell 3
      have fcn3 := (hN.out).frozen 3
      have cn4 : wc.cell? ⟨g6, 4, none⟩ = some (.string s) := (hN.out).cell 4
      have fcn4 := (hN.out).frozen 4
      have cn5 : wc.cell? ⟨g6, 5, none⟩ = some (.int .i64 0) := (hN.out).cell 5
      have fcn5 := (hN.out).frozen 5
      have cn6 : wc.cell? ⟨g6, 6, none⟩ = some (.int .i64 0) := (hN.out).cell 6
      have fcn6 := (hN.out).frozen 6
      have cn7 : wc.cell? ⟨g6, 7, none⟩ = some (.int .i64 0) := (hN.out).cell 7
      have fcn7 := (hN.out).frozen 7
      have cn8 : wc.cell? ⟨g6, 8, none⟩ = some (.int .i64 0) := (hN.out).cell 8
      have fcn8 := (hN.out).frozen 8
      have cn9 : wc.cell? ⟨g6, 9, none⟩ = some (.int .i64 0) := (hN.out).cell 9
      have fcn9 := (hN.out).frozen 9
      have cn10 : wc.cell? ⟨g6, 10, none⟩ = some (.slice none 0 0) := (hN.out).cell 10
      have fcn10 := (hN.out).frozen 10
      have cn11 : wc.cell? ⟨g6, 11, none⟩ = some (.string ⟨#[]⟩) := (hN.out).cell 11
      have fcn11 := (hN.out).frozen 11
      have cn12 : wc.cell? ⟨g6, 12, none⟩ = some (.string ⟨#[]⟩) := (hN.out).cell 12
      have fcn12 := (hN.out).frozen 12
      have cn13 : wc.cell? ⟨g6, 13, none⟩ = some (.bool false) := (hN.out).cell 13
      have fcn13 := (hN.out).frozen 13
      have lcn := (hN.out).lt
      have cb0 : wc.cell? ⟨g + 1, 0, none⟩ = some (.int .i64 0) := (H6.out.1).cell 0
      have fcb0 := (H6.out.1).frozen 0
      have cb1 : wc.cell? ⟨g + 1, 1, none⟩ = some (.slice none 0 0) := (H6.out.1).cell 1
      have fcb1 := (H6.out.1).frozen 1
      have cb2 : wc.cell? ⟨g + 1, 2, none⟩ = some (.int .i64 0) := (H6.out.1).cell 2
      have fcb2 := (H6.out.1).frozen 2
      have cb3 : wc.cell? ⟨g + 1, 3, none⟩ = some (.int .i64 0) := (H6.out.1).cell 3
      have fcb3 := (H6.out.1).frozen 3
      have cb4 : wc.cell? ⟨g + 1, 4, none⟩ = some (.string ⟨#[]⟩) := (H6.out.1).cell 4
      have fcb4 := (H6.out.1).frozen 4
      have cb5 : wc.cell? ⟨g + 1, 5, none⟩ = some (.int .i64 0) := (H6.out.1).cell 5
      have fcb5 := (H6.out.1).frozen 5
      have cb6 : wc.cell? ⟨g + 1, 6, none⟩ = some (.int .i64 0) := (H6.out.1).cell 6
      have fcb6 := (H6.out.1).frozen 6
      have cb7 : wc.cell? ⟨g + 1, 7, none⟩ = some (.int .i64 0) := (H6.out.1).cell 7
      have fcb7 := (H6.out.1).frozen 7
      have cb8 : wc.cell? ⟨g + 1, 8, none⟩ = some (.int .i64 0) := (H6.out.1).cell 8
      have fcb8 := (H6.out.1).frozen 8
      have cb9 : wc.cell? ⟨g + 1, 9, none⟩ = some (.int .i64 0) := (H6.out.1).cell 9
      have fcb9 := (H6.out.1).frozen 9
      have cb10 : wc.cell? ⟨g + 1, 10, none⟩ = some (.slice none 0 0) := (H6.out.1).cell 10
      have fcb10 := (H6.out.1).frozen 10
      have cb11 : wc.cell? ⟨g + 1, 11, none⟩ = some (.string ⟨#[]⟩) := (H6.out.1).cell 11
      have fcb11 := (H6.out.1).frozen 11
      have cb12 : wc.cell? ⟨g + 1, 12, none⟩ = some (.string ⟨#[]⟩) := (H6.out.1).cell 12
      have fcb12 := (H6.out.1).frozen 12
      have cb13 : wc.cell? ⟨g + 1, 13, none⟩ = some (.bool false) := (H6.out.1).cell 13
      have fcb13 := (H6.out.1).frozen 13
      have lcb := (H6.out.1).lt
      cases ok with
      | false =>
        have hX2 := hX0 rfl
        go_wp2_with fail
        have hz := blk_puts [.int .i64 0, .slice none 0 0, .int .i64 0, .int .i64 0, .string ⟨#[]⟩, .int .i64 0, .int .i64 0, .int .i64 0, .int .i64 0, .int .i64 0, .slice none 0 0, .string ⟨#[]⟩, .string ⟨#[]⟩, .bool false] zero14.toList (wc) 0 [] H6.out.1 rfl rfl
        have hbz := H6.out.2.trans ((below_put14 [.int .i64 0, .slice none 0 0, .int .i64 0, .int .i64 0, .string ⟨#[]⟩, .int .i64 0, .int .i64 0, .int .i64 0, .int .i64 0, .int .i64 0, .slice none 0 0, .string ⟨#[]⟩, .string ⟨#[]⟩, .bool false] (wc) (g + 1) 0).mono (Nat.le_succ g))
        simp only [puts, Nat.zero_add, Nat.reduceAdd] at hz hbz
        refine bodyPost_ret (v := .tuple #[.agg #[.int .i64 0, .slice none 0 0, .int .i64 0, .int .i64 0, .string ⟨#[]⟩, .int .i64 0, .int .i64 0, .int .i64 0, .int .i64 0, .int .i64 0, .slice none 0 0, .string ⟨#[]⟩, .string ⟨#[]⟩, .bool false], .bool false]) ?_ rfl ?_
        · refine ret_cd2 Try.results134 ?_ ?_ hz rfl
          all_goals rfl
        · refine ⟨?_, by rw [HG.out]; exact hbz⟩
          first | rfl | (rw [hX2]; rfl)
      | true =>
        obtain ⟨L, hL, rfl, hL2⟩ := hX1 rfl
        have HC := Lib.hid (copied0_any 4 a b s wc)
        go_wp2_with fail
        ((with_reducible refine (HC.out).mono ?_); rintro e w' ⟨rfl, hbw⟩)
        obtain ⟨m, rfl⟩ := grow_mk hbw
        clear hbw
        clear hN
        go_wp2_with fail
        have hz := blk_puts [.int .i64 4, .slice none 0 0, .int .i64 a, .int .i64 b, .string s, .int .i64 0, .int .i64 0, .int .i64 0, .int .i64 0, .int .i64 0, .slice none 0 0, .string ⟨#[]⟩, .string ⟨#[]⟩, .bool false] zero14.toList (grow wc m) 0 [] (H6.out.1.grow m) rfl rfl
        have hbz := (H6.out.2.trans ((grow_below m).mono (by have := l6; omega))).trans ((below_put14 [.int .i64 4, .slice none 0 0, .int .i64 a, .int .i64 b, .string s, .int .i64 0, .int .i64 0, .int .i64 0, .int .i64 0, .int .i64 0, .slice none 0 0, .string ⟨#[]⟩, .string ⟨#[]⟩, .bool false] (grow wc m) (g + 1) 0).mono (Nat.le_succ g))
        simp only [puts, Nat.zero_add, Nat.reduceAdd] at hz hbz
        refine bodyPost_ret (v := .tuple #[.agg #[.int .i64 4, .slice none 0 0, .int .i64 a, .int .i64 b, .string s, .int .i64 0, .int .i64 0, .int .i64 0, .int .i64 0, .int .i64 0, .slice none 0 0, .string ⟨#[]⟩, .string ⟨#[]⟩, .bool false], .bool true]) ?_ rfl ?_
        · refine ret_cd2 Try.results134 ?_ ?_ hz rfl
          all_goals rfl
        · refine ⟨?_, by rw [HG.out]; exact hbz⟩
          rw [HXP.out]

end Go.Proofs.Ytgjhaanpkfheeaa

namespace Go.Proofs.Ytgjhaanpkfheeaa
set_option linter.unusedVariables false
set_option linter.unusedSimpArgs false
open Go.RowKit

theorem may_solid (n : Nat) : ∀ l : List Vt, mayV n l = true → mayV n (solidV l) = true
  | [], h => h
  | .mk t k :: r, h => by
    have ih := may_solid n r (may_mk h).2.2.2.2
    unfold solidV at ih ⊢
    rw [List.filter_cons]
    split
    · rw [mayV_cons] at h ⊢
      simp only [Bool.and_eq_true] at h ⊢
      exact ⟨h.1, ih⟩
    · exact ih
theorem sz_solid : ∀ l : List Vt, szV (solidV l) ≤ szV l
  | [] => Nat.le_refl _
  | .mk t k :: r => by
    have ih := sz_solid r
    unfold solidV at ih ⊢
    rw [List.filter_cons]
    split
    · rw [szV_cons, szV_cons]
      omega
    · rw [szV_cons]
      omega
def zeroQt : Qt := .mk 0 [] zeroQ
/-- a part, of values so high -/
def pQ (bq : Bool) (h : Nat) : Vt → Qt := partQ (leafF bq) (wholeQ readQ (leafF bq) (h - 1))
theorem whole_pQ (bq : Bool) (h : Nat) (l : List Vt) (h0 : h = 0 → l = []) : wholeQ readQ (leafF bq) h l = readQ (pQ bq h) (solidV l) := by
  cases h with
  | zero => rw [h0 rfl]; rfl
  | succ h => rfl

def barEnd : Ending := .panicked [barredV]

/-- all of some values, read as a condition -/
def QWholeAt (bq : Bool) (h : Nat) : Prop := ∀ (l : List Vl) (oa : Option Addr) (cap bb o gR : Nat) (w : World), Blk w gR 97 #[leafV bq] → VsIn w h oa cap bb o l → (∃ n, mayV n (l.map Vl.c) = true) → szV (l.map Vl.c) ≤ 1073741824 →
  Calls Try.prog 91 #[.pointer (some ⟨gR, 0, none⟩), .slice oa l.length cap] w fun e w' => ∃ (r : Value) (code : Int), e = .returned (.tuple #[r, .int .i64 code]) ∧ (code = if (wholeQ readQ (leafF bq) h (l.map Vl.c)).isSome then 0 else 3) ∧ isQd (· < w.heap.size) ((wholeQ readQ (leafF bq) h (l.map Vl.c)).getD zeroQt) r w' ∧ Below w.heap.size w w'
/-- what comes of a part -/
def partEnd (B : Nat) (f : Vt → Qt) (x : Option Vt) (e : Ending) (w : World) : Prop := match x with
  | some v => if opensV v then ∃ r, e = .returned r ∧ isQd (· < B) (f v) r w else e = barEnd
  | none => e = barEnd
def PartAt (bq : Bool) (h : Nat) : Prop := ∀ (l : List Vl) (oa : Option Addr) (cap bb o gR i : Nat) (w : World), Blk w gR 97 #[leafV bq] → VsIn w h oa cap bb o l → (∃ n, mayV n (l.map Vl.c) = true) → szV (l.map Vl.c) ≤ 1073741824 → i ≤ 4611686018427387904 →
  Calls Try.prog 126 #[.pointer (some ⟨gR, 0, none⟩), .slice oa l.length cap, .int .i64 (i : Int)] w fun e w' => partEnd w.heap.size (pQ bq h) ((l.map Vl.c)[i]?) e w' ∧ Below w.heap.size w w'

theorem partEnd_some {B : Nat} {f : Vt → Qt} {v : Vt} {e : Ending} {w : World} (h : opensV v = true) : partEnd B f (some v) e w = ∃ r, e = .returned r ∧ isQd (· < B) (f v) r w := by
  show (if opensV v = true then (∃ r, e = .returned r ∧ isQd (· < B) (f v) r w) else e = barEnd) = _
  rw [if_pos h]
theorem partEnd_not {B : Nat} {f : Vt → Qt} {v : Vt} {e : Ending} {w : World} (h : opensV v = false) : partEnd B f (some v) e w = (e = barEnd) := by
  show (if opensV v = true then (∃ r, e = .returned r ∧ isQd (· < B) (f v) r w) else e = barEnd) = _
  rw [if_neg (by rw [h]; simp)]
theorem leafF_64 {bq : Bool} {v : Vt} {L : Int × Int × List UInt8} (h : leafF bq v = some L) : I64 L.1 ∧ I64 L.2.1 := by
  cases bq with
  | false => cases h
  | true =>
    obtain ⟨t, k⟩ := v
    have h : (if t.kind = 21 then (identOf k).map fun s => ((3, 0, s) : Int × Int × List UInt8) else if t.kind = 2 ∧ t.text = [111, 102] then some (1, 2, []) else none) = some L := h
    split at h
    · obtain ⟨s, _, rfl⟩ := Option.map_eq_some_iff.1 h
      exact ⟨show I64 3 by unfold I64; decide, show I64 0 by unfold I64; decide⟩
    · split at h
      · obtain rfl := Option.some.inj h
        exact ⟨by unfold I64; decide, by unfold I64; decide⟩
      · cases h
theorem pQ_leaf {bq : Bool} {h : Nat} {v : Vt} {L : Int × Int × List UInt8} (hl : leafF bq v = some L) : pQ bq h v = leafQ L := by
  unfold pQ partQ
  rw [hl]
theorem pQ_par {bq : Bool} {h : Nat} {tt : List UInt8} {n : Int × Int} {ti tid : Bool} {k : List Vt} (hl : leafF bq (.mk ⟨21, tt, n, ti, tid⟩ k) = none) : pQ bq (h + 1) (.mk ⟨21, tt, n, ti, tid⟩ k) = (wholeQ readQ (leafF bq) h k).getD (leafQ zeroQ) := by
  unfold pQ partQ
  rw [hl]
  rfl
theorem pQ_fun {bq : Bool} {h : Nat} {tt : List UInt8} {n : Int × Int} {ti tid : Bool} {k : List Vt} (hl : leafF bq (.mk ⟨2, tt, n, ti, tid⟩ k) = none) : pQ bq (h + 1) (.mk ⟨2, tt, n, ti, tid⟩ k) = leafQ zeroQ := by
  unfold pQ partQ
  rw [hl]
  rfl

set_option maxRecDepth 20000 in
set_option maxHeartbeats 16000000 in
theorem part_step (bq : Bool) (h : Nat) (hW : ∀ h', h = h' + 1 → QWholeAt bq h') : PartAt bq h := by
  intro l oa cap bb o gR i w hR hs hm hz hi
  obtain ⟨N, hN⟩ : ∃ N, l.length = N := ⟨_, rfl⟩
  obtain ⟨Y, hY⟩ : ∃ Y, (l.map Vl.c)[i]? = Y := ⟨_, rfl⟩
  rw [hN, hY]
  have hb := below_box w (.cells zero14 49)
  have h1 := Blk.new w 49 zero14
  have hs1 : (w.alloc (.cells zero14 49)).heap.size = w.heap.size + 1 := by simp
  have H := Lib.hid (And.intro h1 (And.intro hb (And.intro (hR.below hb hR.lt) (And.intro (hs.below hb) hs1))))
  have hRg := hR.lt
  have hsm := hs.small
  have hcl := hs.sl.le
  have hcm := hs.sl.max
  unfold maxLen at hcm
  rw [hN] at hsm hcl
  have HM := Lib.hid (And.intro hm hz)
  have HN := Lib.hid hN
  have HY := Lib.hid hY
  have HW := Lib.hid hW
  clear h1 hb hs1 hR hs hm hz hN hY hW
  simp only [zero14] at H
  go_enter Try.func126, Try.ntmps126
  go_upto_region 1 with fail
  obtain ⟨g, hg⟩ : ∃ g, w.heap.size = g := ⟨_, rfl⟩
  rw [hg] at H hRg
  simp only [hg]
  have HG := Lib.hid hg
  clear hg
  generalize World.alloc w _ = wa at *
  obtain ⟨h1, hb, hR, hs, hs1⟩ := H.out
  have ca0 : wa.cell? ⟨g, 0, none⟩ = some (.int .i64 0) := (h1).cell 0
  have fca0 := (h1).frozen 0
  have ca1 : wa.cell? ⟨g, 1, none⟩ = some (.slice none 0 0) := (h1).cell 1
  have fca1 := (h1).frozen 1
  have ca2 : wa.cell? ⟨g, 2, none⟩ = some (.int .i64 0) := (h1).cell 2
  have fca2 := (h1).frozen 2
  have ca3 : wa.cell? ⟨g, 3, none⟩ = some (.int .i64 0) := (h1).cell 3
  have fca3 := (h1).frozen 3
  have ca4 : wa.cell? ⟨g, 4, none⟩ = some (.string ⟨#[]⟩) := (h1).cell 4
  have fca4 := (h1).frozen 4
  have ca5 : wa.cell? ⟨g, 5, none⟩ = some (.int .i64 0) := (h1).cell 5
  have fca5 := (h1).frozen 5
  have ca6 : wa.cell? ⟨g, 6, none⟩ = some (.int .i64 0) := (h1).cell 6
  have fca6 := (h1).frozen 6
  have ca7 : wa.cell? ⟨g, 7, none⟩ = some (.int .i64 0) := (h1).cell 7
  have fca7 := (h1).frozen 7
  have ca8 : wa.cell? ⟨g, 8, none⟩ = some (.int .i64 0) := (h1).cell 8
  have fca8 := (h1).frozen 8
  have ca9 : wa.cell? ⟨g, 9, none⟩ = some (.int .i64 0) := (h1).cell 9
  have fca9 := (h1).frozen 9
  have ca10 : wa.cell? ⟨g, 10, none⟩ = some (.slice none 0 0) := (h1).cell 10
  have fca10 := (h1).frozen 10
  have ca11 : wa.cell? ⟨g, 11, none⟩ = some (.string ⟨#[]⟩) := (h1).cell 11
  have fca11 := (h1).frozen 11
  have ca12 : wa.cell? ⟨g, 12, none⟩ = some (.string ⟨#[]⟩) := (h1).cell 12
  have fca12 := (h1).frozen 12
  have ca13 : wa.cell? ⟨g, 13, none⟩ = some (.bool false) := (h1).cell 13
  have fca13 := (h1).frozen 13
  have lca := (h1).lt
  clear h1 hb hR hs
  by_cases hiN : i < N
  · have gi : decide ((N : Int) ≤ (i : Int)) = false := by simp; omega
    have gin : decide (N ≤ i) = false := by simp; omega
    have ij0 : (0 : Int) ≤ (i : Int) := Int.natCast_nonneg _
    have ijN : (i : Int) < (N : Int) := by omega
    have hil : i < l.length := by rw [HN.out]; exact hiN
    have hli : l[i]? = some l[i] := List.getElem?_eq_getElem hil
    obtain ⟨x, hx⟩ : ∃ x, l[i] = x := ⟨_, rfl⟩
    rw [hx] at hli
    have hY1 : Y = some x.c := by rw [← HY.out, List.getElem?_map, hli]; rfl
    have hvs := H.out.2.2.2.1
    obtain ⟨rfl, hbl⟩ := hvs.sl.lies (by omega)
    have hvx := hvs.each i x hli
    obtain ⟨h, rfl⟩ : ∃ h', h = h' + 1 := by
      cases h with
      | zero => exact hvx.elim
      | succ h => exact ⟨h, rfl⟩
    obtain ⟨t, koa, kb, ko, kcap, kids⟩ := x
    have hmem : (Vl.mk t koa kb ko kcap kids).c ∈ l.map Vl.c := List.mem_map_of_mem (List.mem_of_getElem? hli)
    rw [Vl.c_mk] at hmem
    obtain ⟨⟨nm, hm⟩, hz⟩ := HM.out
    have hmk := may_kid hm _ _ hmem
    have hzk := sz_kid _ _ hmem
    obtain ⟨K, hK⟩ : ∃ K, kids.length = K := ⟨_, rfl⟩
    have f0 := hvs.cell hli (j := 0) rfl
    have f1 := hvs.cell hli (j := 1) rfl
    have f2 := hvs.cell hli (j := 2) rfl
    have f3 := hvs.cell hli (j := 3) rfl
    have f4 := hvs.cell hli (j := 4) rfl
    have f5 := hvs.cell hli (j := 5) rfl
    have f6 := hvs.cell hli (j := 6) rfl
    rw [Nat.add_zero] at f0
    rw [hK] at f6
    obtain ⟨tk, tt, ⟨tn, td⟩, ti, tid⟩ := t
    have HKD := Lib.hid (And.intro hvx.kids (And.intro hmk (And.intro (show szV (kids.map Vl.c) ≤ 1073741824 by omega) hK)))
    rw [Vl.c_mk] at hY1
    subst hY1
    have HWP := Lib.hid (HW.out h rfl)
    clear hvs hli hil hx hvx hmem hm hz hmk hzk hK HY HM HW
    by_cases hop : tk = 21 ∨ tk = 2
    · have hopv : opensV (.mk ⟨tk, tt, (tn, td), ti, tid⟩ (kids.map Vl.c)) = true := by
        rcases hop with h | h <;> subst h <;> rfl
      rcases hop with rfl | rfl
      · skip
        go_upto_region 4 with fail
        have hb2 := below_box wa (.cells #[.int .i64 21, .string ⟨tt.toArray⟩, .int .i64 tn, .int .i64 td, .bool ti, .bool tid, .slice koa K kcap] 74)
        have h7 := Blk.new wa 74 #[.int .i64 21, .string ⟨tt.toArray⟩, .int .i64 tn, .int .i64 td, .bool ti, .bool tid, .slice koa K kcap]
        rw [hs1] at h7
        have HH := Lib.hid (And.intro (H.out.1.below hb2 H.out.1.lt) (And.intro (H.out.2.1.trans (hb2.mono (by omega))) (And.intro (H.out.2.2.1.below hb2 H.out.2.2.1.lt) (And.intro (HKD.out.1.below hb2) h7))))
        clear hb2 h7 ca0 fca0 ca1 fca1 ca2 fca2 ca3 fca3 ca4 fca4 ca5 fca5 ca6 fca6 ca7 fca7 ca8 fca8 ca9 fca9 ca10 fca10 ca11 fca11 ca12 fca12 ca13 fca13 f0 f1 f2 f3 f4 f5 f6 H
        generalize World.alloc wa _ = wb at *
        have ht := ktold_any bq gR h 21 tt tn td ti tid koa kcap kb ko kids wb HH.out.2.2.1 HH.out.2.2.2.1 HKD.out.2.1 HKD.out.2.2.1
        rw [HKD.out.2.2.2] at ht
        obtain ⟨X, hX⟩ : ∃ X, leafF bq (.mk ⟨21, tt, (tn, td), ti, tid⟩ (kids.map Vl.c)) = X := ⟨_, rfl⟩
        rw [hX] at ht
        obtain ⟨k, a, b, s, ok, hXp, hX1, hX0⟩ := told_parts X
        rw [hXp] at ht
        have HT := Lib.hid ht
        have h7 := HH.out.2.2.2.2
        have cv0 : wb.cell? ⟨g + 1, 0, none⟩ = some (.int .i64 21) := (h7).cell 0
        have fcv0 := (h7).frozen 0
        have cv1 : wb.cell? ⟨g + 1, 1, none⟩ = some (.string ⟨tt.toArray⟩) := (h7).cell 1
        have fcv1 := (h7).frozen 1
        have cv2 : wb.cell? ⟨g + 1, 2, none⟩ = some (.int .i64 tn) := (h7).cell 2
        have fcv2 := (h7).frozen 2
        have cv3 : wb.cell? ⟨g + 1, 3, none⟩ = some (.int .i64 td) := (h7).cell 3
        have fcv3 := (h7).frozen 3
        have cv4 : wb.cell? ⟨g + 1, 4, none⟩ = some (.bool ti) := (h7).cell 4
        have fcv4 := (h7).frozen 4
        have cv5 : wb.cell? ⟨g + 1, 5, none⟩ = some (.bool tid) := (h7).cell 5
        have fcv5 := (h7).frozen 5
        have cv6 : wb.cell? ⟨g + 1, 6, none⟩ = some (.slice koa K kcap) := (h7).cell 6
        have fcv6 := (h7).frozen 6
        have lcv := (h7).lt
        clear h7 ht
        go_wp2_with fail
        ((with_reducible refine (HT.out).mono ?_); rintro e w' ⟨rfl, hbw⟩)
        obtain ⟨m, rfl⟩ := grow_mk hbw
        clear hbw
        have HI := Lib.hid (And.intro (HH.out.1.grow m) (And.intro (HH.out.2.1.trans ((grow_below m).mono (by omega))) (And.intro (HH.out.2.2.1.grow m) (And.intro (HH.out.2.2.2.1.below (grow_below m)) (HH.out.2.2.2.2.grow m)))))
        clear HH HT lcv cv0 cv1 cv2 cv3 cv4 cv5 cv6 fcv0 fcv1 fcv2 fcv3 fcv4 fcv5 fcv6
        generalize grow wb m = wc at *
        go_upto_region 5 with fail
        have hb3 := below_box wc (.cells #[.int .i64 k, .slice none 0 0, .int .i64 a, .int .i64 b, .string s, .int .i64 0, .int .i64 0, .int .i64 0, .int .i64 0, .int .i64 0, .slice none 0 0, .string ⟨#[]⟩, .string ⟨#[]⟩, .bool false] 49)
        have HJ := Lib.hid (And.intro (HI.out.1.below hb3 HI.out.1.lt) (And.intro (HI.out.2.1.trans (hb3.mono (by have := HI.out.1.lt; omega))) (And.intro (HI.out.2.2.1.below hb3 HI.out.2.2.1.lt) (And.intro (HI.out.2.2.2.1.below hb3) (And.intro (HI.out.2.2.2.2.below hb3 HI.out.2.2.2.2.lt) (Blk.new wc 49 #[.int .i64 k, .slice none 0 0, .int .i64 a, .int .i64 b, .string s, .int .i64 0, .int .i64 0, .int .i64 0, .int .i64 0, .int .i64 0, .slice none 0 0, .string ⟨#[]⟩, .string ⟨#[]⟩, .bool false]))))))
        clear hb3 HI
        obtain ⟨g8, hg8⟩ : ∃ g8, wc.heap.size = g8 := ⟨_, rfl⟩
        rw [hg8] at HJ
        simp only [hg8]
        clear hg8
        generalize World.alloc wc _ = wd at *
        obtain ⟨h1, hb, hR, hvs, h7, h8⟩ := HJ.out
        have ca0 : wd.cell? ⟨g, 0, none⟩ = some (.int .i64 0) := (h1).cell 0
        have fca0 := (h1).frozen 0
        have ca1 : wd.cell? ⟨g, 1, none⟩ = some (.slice none 0 0) := (h1).cell 1
        have fca1 := (h1).frozen 1
        have ca2 : wd.cell? ⟨g, 2, none⟩ = some (.int .i64 0) := (h1).cell 2
        have fca2 := (h1).frozen 2
        have ca3 : wd.cell? ⟨g, 3, none⟩ = some (.int .i64 0) := (h1).cell 3
        have fca3 := (h1).frozen 3
        have ca4 : wd.cell? ⟨g, 4, none⟩ = some (.string ⟨#[]⟩) := (h1).cell 4
        have fca4 := (h1).frozen 4
        have ca5 : wd.cell? ⟨g, 5, none⟩ = some (.int .i64 0) := (h1).cell 5
        have fca5 := (h1).frozen 5
        have ca6 : wd.cell? ⟨g, 6, none⟩ = some (.int .i64 0) := (h1).cell 6
        have fca6 := (h1).frozen 6
        have ca7 : wd.cell? ⟨g, 7, none⟩ = some (.int .i64 0) := (h1).cell 7
        have fca7 := (h1).frozen 7
        have ca8 : wd.cell? ⟨g, 8, none⟩ = some (.int .i64 0) := (h1).cell 8
        have fca8 := (h1).frozen 8
        have ca9 : wd.cell? ⟨g, 9, none⟩ = some (.int .i64 0) := (h1).cell 9
        have fca9 := (h1).frozen 9
        have ca10 : wd.cell? ⟨g, 10, none⟩ = some (.slice none 0 0) := (h1).cell 10
        have fca10 := (h1).frozen 10
        have ca11 : wd.cell? ⟨g, 11, none⟩ = some (.string ⟨#[]⟩) := (h1).cell 11
        have fca11 := (h1).frozen 11
        have ca12 : wd.cell? ⟨g, 12, none⟩ = some (.string ⟨#[]⟩) := (h1).cell 12
        have fca12 := (h1).frozen 12
        have ca13 : wd.cell? ⟨g, 13, none⟩ = some (.bool false) := (h1).cell 13
        have fca13 := (h1).frozen 13
        have lca := (h1).lt
        have cv0 : wd.cell? ⟨g + 1, 0, none⟩ = some (.int .i64 21) := (h7).cell 0
        have fcv0 := (h7).frozen 0
        have cv1 : wd.cell? ⟨g + 1, 1, none⟩ = some (.string ⟨tt.toArray⟩) := (h7).cell 1
        have fcv1 := (h7).frozen 1
        have cv2 : wd.cell? ⟨g + 1, 2, none⟩ = some (.int .i64 tn) := (h7).cell 2
        have fcv2 := (h7).frozen 2
        have cv3 : wd.cell? ⟨g + 1, 3, none⟩ = some (.int .i64 td) := (h7).cell 3
        have fcv3 := (h7).frozen 3
        have cv4 : wd.cell? ⟨g + 1, 4, none⟩ = some (.bool ti) := (h7).cell 4
        have fcv4 := (h7).frozen 4
        have cv5 : wd.cell? ⟨g + 1, 5, none⟩ = some (.bool tid) := (h7).cell 5
        have fcv5 := (h7).frozen 5
        have cv6 : wd.cell? ⟨g + 1, 6, none⟩ = some (.slice koa K kcap) := (h7).cell 6
        have fcv6 := (h7).frozen 6
        have lcv := (h7).lt
        have cx0 : wd.cell? ⟨g8, 0, none⟩ = some (.int .i64 k) := (h8).cell 0
        have fcx0 := (h8).frozen 0
        have cx1 : wd.cell? ⟨g8, 1, none⟩ = some (.slice none 0 0) := (h8).cell 1
        have fcx1 := (h8).frozen 1
        have cx2 : wd.cell? ⟨g8, 2, none⟩ = some (.int .i64 a) := (h8).cell 2
        have fcx2 := (h8).frozen 2
        have cx3 : wd.cell? ⟨g8, 3, none⟩ = some (.int .i64 b) := (h8).cell 3
        have fcx3 := (h8).frozen 3
        have cx4 : wd.cell? ⟨g8, 4, none⟩ = some (.string s) := (h8).cell 4
        have fcx4 := (h8).frozen 4
        have cx5 : wd.cell? ⟨g8, 5, none⟩ = some (.int .i64 0) := (h8).cell 5
        have fcx5 := (h8).frozen 5
        have cx6 : wd.cell? ⟨g8, 6, none⟩ = some (.int .i64 0) := (h8).cell 6
        have fcx6 := (h8).frozen 6
        have cx7 : wd.cell? ⟨g8, 7, none⟩ = some (.int .i64 0) := (h8).cell 7
        have fcx7 := (h8).frozen 7
        have cx8 : wd.cell? ⟨g8, 8, none⟩ = some (.int .i64 0) := (h8).cell 8
        have fcx8 := (h8).frozen 8
        have cx9 : wd.cell? ⟨g8, 9, none⟩ = some (.int .i64 0) := (h8).cell 9
        have fcx9 := (h8).frozen 9
        have cx10 : wd.cell? ⟨g8, 10, none⟩ = some (.slice none 0 0) := (h8).cell 10
        have fcx10 := (h8).frozen 10
        have cx11 : wd.cell? ⟨g8, 11, none⟩ = some (.string ⟨#[]⟩) := (h8).cell 11
        have fcx11 := (h8).frozen 11
        have cx12 : wd.cell? ⟨g8, 12, none⟩ = some (.string ⟨#[]⟩) := (h8).cell 12
        have fcx12 := (h8).frozen 12
        have cx13 : wd.cell? ⟨g8, 13, none⟩ = some (.bool false) := (h8).cell 13
        have fcx13 := (h8).frozen 13
        have lcx := (h8).lt
        clear h1 hb hR hvs h7 h8
        cases ok with
        | true =>
          obtain ⟨L, hL, rfl, hL2⟩ := hX1 rfl
          go_wp2_with fail
          have hz := blk_puts [.int .i64 4, .slice none 0 0, .int .i64 a, .int .i64 b, .string s, .int .i64 0, .int .i64 0, .int .i64 0, .int .i64 0, .int .i64 0, .slice none 0 0, .string ⟨#[]⟩, .string ⟨#[]⟩, .bool false] zero14.toList (wd) 0 [] HJ.out.1 rfl rfl
          have hbz := HJ.out.2.1.trans (below_put14 [.int .i64 4, .slice none 0 0, .int .i64 a, .int .i64 b, .string s, .int .i64 0, .int .i64 0, .int .i64 0, .int .i64 0, .int .i64 0, .slice none 0 0, .string ⟨#[]⟩, .string ⟨#[]⟩, .bool false] (wd) g 0)
          have hgz := grownBy_puts [.int .i64 4, .slice none 0 0, .int .i64 a, .int .i64 b, .string s, .int .i64 0, .int .i64 0, .int .i64 0, .int .i64 0, .int .i64 0, .slice none 0 0, .string ⟨#[]⟩, .string ⟨#[]⟩, .bool false] (wd) g 0
          simp only [puts, Nat.zero_add, Nat.reduceAdd] at hz hbz hgz
          refine bodyPost_ret (v := .agg #[.int .i64 4, .slice none 0 0, .int .i64 a, .int .i64 b, .string s, .int .i64 0, .int .i64 0, .int .i64 0, .int .i64 0, .int .i64 0, .slice none 0 0, .string ⟨#[]⟩, .string ⟨#[]⟩, .bool false]) ?_ rfl ?_
          · refine ret_cd Try.results126 ?_ hz rfl
            rfl
          · refine ⟨?_, by rw [HG.out]; exact hbz⟩
            rw [partEnd_some hopv]
            refine ⟨_, rfl, ?_⟩
            rw [pQ_leaf (hX.trans hL)]
            obtain ⟨i1, i2⟩ := leafF_64 (hX.trans hL)
            subst hL2
            exact leaf_qd _ _ i1 i2
        | false =>
          have hX2 := hX0 rfl
          obtain ⟨Y, hY⟩ : ∃ Y, wholeQ readQ (leafF bq) h (kids.map Vl.c) = Y := ⟨_, rfl⟩
          have hc := HWP.out kids koa kcap kb ko gR wd HJ.out.2.2.1 HJ.out.2.2.2.1 HKD.out.2.1 HKD.out.2.2.1
          rw [hY, HKD.out.2.2.2] at hc
          have HC := Lib.hid hc
          clear hc
          go_wp2_with fail
          ((with_reducible refine HC.out.mono ?_); rintro e we ⟨r, code, rfl, hcode, hq, hbe⟩)
          obtain ⟨qk, qa, qn, qc, ⟨q1, q2, q3⟩, rfl⟩ := hq.cells
          have HQ := Lib.hid (And.intro hq hbe)
          have h1 := HJ.out.1.below hbe HJ.out.1.lt
          have HK := Lib.hid (And.intro h1 (HJ.out.2.1.trans (hbe.mono (by omega))))
          have hwd : g + 1 < wd.heap.size := lcv
          have hwe := hbe.size
          clear HC hq hbe h1 ca0 fca0 ca1 fca1 ca2 fca2 ca3 fca3 ca4 fca4 ca5 fca5 ca6 fca6 ca7 fca7 ca8 fca8 ca9 fca9 ca10 fca10 ca11 fca11 ca12 fca12 ca13 fca13 cv0 fcv0 cv1 fcv1 cv2 fcv2 cv3 fcv3 cv4 fcv4 cv5 fcv5 cv6 fcv6 cx0 fcx0 cx1 fcx1 cx2 fcx2 cx3 fcx3 cx4 fcx4 cx5 fcx5 cx6 fcx6 cx7 fcx7 cx8 fcx8 cx9 fcx9 cx10 fcx10 cx11 fcx11 cx12 fcx12 cx13 fcx13
          simp only [qcells]
          go_upto_region 9 with fail
          have hb5 := below_box we (.cells #[.int .i64 qk, .slice qa qn qc, .int .i64 q1, .int .i64 q2, .string ⟨q3.toArray⟩, .int .i64 0, .int .i64 0, .int .i64 0, .int .i64 0, .int .i64 0, .slice none 0 0, .string ⟨#[]⟩, .string ⟨#[]⟩, .bool false] 49)
          have h1 := HK.out.1.below hb5 HK.out.1.lt
          have HL := Lib.hid (And.intro h1 (HK.out.2.trans (hb5.mono (by omega))))
          have HR := Lib.hid (HQ.out.1.below hb5)
          have h10 := Blk.new we 49 #[.int .i64 qk, .slice qa qn qc, .int .i64 q1, .int .i64 q2, .string ⟨q3.toArray⟩, .int .i64 0, .int .i64 0, .int .i64 0, .int .i64 0, .int .i64 0, .slice none 0 0, .string ⟨#[]⟩, .string ⟨#[]⟩, .bool false]
          clear HK HQ hb5
          simp only [qcells] at HR
          generalize we.heap.size = g10 at *
          generalize World.alloc we _ = wf at *
          have ca0 : wf.cell? ⟨g, 0, none⟩ = some (.int .i64 0) := (h1).cell 0
          have fca0 := (h1).frozen 0
          have ca1 : wf.cell? ⟨g, 1, none⟩ = some (.slice none 0 0) := (h1).cell 1
          have fca1 := (h1).frozen 1
          have ca2 : wf.cell? ⟨g, 2, none⟩ = some (.int .i64 0) := (h1).cell 2
          have fca2 := (h1).frozen 2
          have ca3 : wf.cell? ⟨g, 3, none⟩ = some (.int .i64 0) := (h1).cell 3
          have fca3 := (h1).frozen 3
          have ca4 : wf.cell? ⟨g, 4, none⟩ = some (.string ⟨#[]⟩) := (h1).cell 4
          have fca4 := (h1).frozen 4
          have ca5 : wf.cell? ⟨g, 5, none⟩ = some (.int .i64 0) := (h1).cell 5
          have fca5 := (h1).frozen 5
          have ca6 : wf.cell? ⟨g, 6, none⟩ = some (.int .i64 0) := (h1).cell 6
          have fca6 := (h1).frozen 6
          have ca7 : wf.cell? ⟨g, 7, none⟩ = some (.int .i64 0) := (h1).cell 7
          have fca7 := (h1).frozen 7
          have ca8 : wf.cell? ⟨g, 8, none⟩ = some (.int .i64 0) := (h1).cell 8
          have fca8 := (h1).frozen 8
          have ca9 : wf.cell? ⟨g, 9, none⟩ = some (.int .i64 0) := (h1).cell 9
          have fca9 := (h1).frozen 9
          have ca10 : wf.cell? ⟨g, 10, none⟩ = some (.slice none 0 0) := (h1).cell 10
          have fca10 := (h1).frozen 10
          have ca11 : wf.cell? ⟨g, 11, none⟩ = some (.string ⟨#[]⟩) := (h1).cell 11
          have fca11 := (h1).frozen 11
          have ca12 : wf.cell? ⟨g, 12, none⟩ = some (.string ⟨#[]⟩) := (h1).cell 12
          have fca12 := (h1).frozen 12
          have ca13 : wf.cell? ⟨g, 13, none⟩ = some (.bool false) := (h1).cell 13
          have fca13 := (h1).frozen 13
          have lca := (h1).lt
          have cy0 : wf.cell? ⟨g10, 0, none⟩ = some (.int .i64 qk) := (h10).cell 0
          have fcy0 := (h10).frozen 0
          have cy1 : wf.cell? ⟨g10, 1, none⟩ = some (.slice qa qn qc) := (h10).cell 1
          have fcy1 := (h10).frozen 1
          have cy2 : wf.cell? ⟨g10, 2, none⟩ = some (.int .i64 q1) := (h10).cell 2
          have fcy2 := (h10).frozen 2
          have cy3 : wf.cell? ⟨g10, 3, none⟩ = some (.int .i64 q2) := (h10).cell 3
          have fcy3 := (h10).frozen 3
          have cy4 : wf.cell? ⟨g10, 4, none⟩ = some (.string ⟨q3.toArray⟩) := (h10).cell 4
          have fcy4 := (h10).frozen 4
          have cy5 : wf.cell? ⟨g10, 5, none⟩ = some (.int .i64 0) := (h10).cell 5
          have fcy5 := (h10).frozen 5
          have cy6 : wf.cell? ⟨g10, 6, none⟩ = some (.int .i64 0) := (h10).cell 6
          have fcy6 := (h10).frozen 6
          have cy7 : wf.cell? ⟨g10, 7, none⟩ = some (.int .i64 0) := (h10).cell 7
          have fcy7 := (h10).frozen 7
          have cy8 : wf.cell? ⟨g10, 8, none⟩ = some (.int .i64 0) := (h10).cell 8
          have fcy8 := (h10).frozen 8
          have cy9 : wf.cell? ⟨g10, 9, none⟩ = some (.int .i64 0) := (h10).cell 9
          have fcy9 := (h10).frozen 9
          have cy10 : wf.cell? ⟨g10, 10, none⟩ = some (.slice none 0 0) := (h10).cell 10
          have fcy10 := (h10).frozen 10
          have cy11 : wf.cell? ⟨g10, 11, none⟩ = some (.string ⟨#[]⟩) := (h10).cell 11
          have fcy11 := (h10).frozen 11
          have cy12 : wf.cell? ⟨g10, 12, none⟩ = some (.string ⟨#[]⟩) := (h10).cell 12
          have fcy12 := (h10).frozen 12
          have cy13 : wf.cell? ⟨g10, 13, none⟩ = some (.bool false) := (h10).cell 13
          have fcy13 := (h10).frozen 13
          have lcy := (h10).lt
          clear h1 h10
          cases Y with
          | none =>
            obtain rfl : code = 3 := hcode
            go_wp2_with fail
            have hz := blk_puts [.int .i64 4, .slice none 0 0, .int .i64 0, .int .i64 0, .string ⟨#[]⟩, .int .i64 0, .int .i64 0, .int .i64 0, .int .i64 0, .int .i64 0, .slice none 0 0, .string ⟨#[]⟩, .string ⟨#[]⟩, .bool false] zero14.toList (wf) 0 [] HL.out.1 rfl rfl
            have hbz := HL.out.2.trans (below_put14 [.int .i64 4, .slice none 0 0, .int .i64 0, .int .i64 0, .string ⟨#[]⟩, .int .i64 0, .int .i64 0, .int .i64 0, .int .i64 0, .int .i64 0, .slice none 0 0, .string ⟨#[]⟩, .string ⟨#[]⟩, .bool false] (wf) g 0)
            have hgz := grownBy_puts [.int .i64 4, .slice none 0 0, .int .i64 0, .int .i64 0, .string ⟨#[]⟩, .int .i64 0, .int .i64 0, .int .i64 0, .int .i64 0, .int .i64 0, .slice none 0 0, .string ⟨#[]⟩, .string ⟨#[]⟩, .bool false] (wf) g 0
            simp only [puts, Nat.zero_add, Nat.reduceAdd] at hz hbz hgz
            refine bodyPost_ret (v := .agg #[.int .i64 4, .slice none 0 0, .int .i64 0, .int .i64 0, .string ⟨#[]⟩, .int .i64 0, .int .i64 0, .int .i64 0, .int .i64 0, .int .i64 0, .slice none 0 0, .string ⟨#[]⟩, .string ⟨#[]⟩, .bool false]) ?_ rfl ?_
            · refine ret_cd Try.results126 ?_ hz rfl
              rfl
            · refine ⟨?_, by rw [HG.out]; exact hbz⟩
              rw [partEnd_some hopv]
              refine ⟨_, rfl, ?_⟩
              rw [pQ_par (hX.trans hX2), hY]
              exact leaf_qd _ _ (by unfold I64 zeroQ; decide) (by unfold I64 zeroQ; decide)
          | some Q =>
            obtain rfl : code = 0 := hcode
            go_wp2_with fail
            have hz := blk_puts [.int .i64 qk, .slice qa qn qc, .int .i64 q1, .int .i64 q2, .string ⟨q3.toArray⟩, .int .i64 0, .int .i64 0, .int .i64 0, .int .i64 0, .int .i64 0, .slice none 0 0, .string ⟨#[]⟩, .string ⟨#[]⟩, .bool false] zero14.toList (wf) 0 [] HL.out.1 rfl rfl
            have hbz := HL.out.2.trans (below_put14 [.int .i64 qk, .slice qa qn qc, .int .i64 q1, .int .i64 q2, .string ⟨q3.toArray⟩, .int .i64 0, .int .i64 0, .int .i64 0, .int .i64 0, .int .i64 0, .slice none 0 0, .string ⟨#[]⟩, .string ⟨#[]⟩, .bool false] (wf) g 0)
            have hgz := grownBy_puts [.int .i64 qk, .slice qa qn qc, .int .i64 q1, .int .i64 q2, .string ⟨q3.toArray⟩, .int .i64 0, .int .i64 0, .int .i64 0, .int .i64 0, .int .i64 0, .slice none 0 0, .string ⟨#[]⟩, .string ⟨#[]⟩, .bool false] (wf) g 0
            simp only [puts, Nat.zero_add, Nat.reduceAdd] at hz hbz hgz
            refine bodyPost_ret (v := .agg #[.int .i64 qk, .slice qa qn qc, .int .i64 q1, .int .i64 q2, .string ⟨q3.toArray⟩, .int .i64 0, .int .i64 0, .int .i64 0, .int .i64 0, .int .i64 0, .slice none 0 0, .string ⟨#[]⟩, .string ⟨#[]⟩, .bool false]) ?_ rfl ?_
            · refine ret_cd Try.results126 ?_ hz rfl
              rfl
            · refine ⟨?_, by rw [HG.out]; exact hbz⟩
              rw [partEnd_some hopv]
              refine ⟨_, rfl, ?_⟩
              rw [pQ_par (hX.trans hX2), hY]
              exact (HR.out.grown hgz (fun k e _ => by have := Option.some.inj e; omega)).anti fun b hb => Or.inl (by have := HG.out; omega)
      · skip
        go_upto_region 4 with fail
        have hb2 := below_box wa (.cells #[.int .i64 2, .string ⟨tt.toArray⟩, .int .i64 tn, .int .i64 td, .bool ti, .bool tid, .slice koa K kcap] 74)
        have h7 := Blk.new wa 74 #[.int .i64 2, .string ⟨tt.toArray⟩, .int .i64 tn, .int .i64 td, .bool ti, .bool tid, .slice koa K kcap]
        rw [hs1] at h7
        have HH := Lib.hid (And.intro (H.out.1.below hb2 H.out.1.lt) (And.intro (H.out.2.1.trans (hb2.mono (by omega))) (And.intro (H.out.2.2.1.below hb2 H.out.2.2.1.lt) (And.intro (HKD.out.1.below hb2) h7))))
        clear hb2 h7 ca0 fca0 ca1 fca1 ca2 fca2 ca3 fca3 ca4 fca4 ca5 fca5 ca6 fca6 ca7 fca7 ca8 fca8 ca9 fca9 ca10 fca10 ca11 fca11 ca12 fca12 ca13 fca13 f0 f1 f2 f3 f4 f5 f6 H
        generalize World.alloc wa _ = wb at *
        have ht := ktold_any bq gR h 2 tt tn td ti tid koa kcap kb ko kids wb HH.out.2.2.1 HH.out.2.2.2.1 HKD.out.2.1 HKD.out.2.2.1
        rw [HKD.out.2.2.2] at ht
        obtain ⟨X, hX⟩ : ∃ X, leafF bq (.mk ⟨2, tt, (tn, td), ti, tid⟩ (kids.map Vl.c)) = X := ⟨_, rfl⟩
        rw [hX] at ht
        obtain ⟨k, a, b, s, ok, hXp, hX1, hX0⟩ := told_parts X
        rw [hXp] at ht
        have HT := Lib.hid ht
        have h7 := HH.out.2.2.2.2
        have cv0 : wb.cell? ⟨g + 1, 0, none⟩ = some (.int .i64 2) := (h7).cell 0
        have fcv0 := (h7).frozen 0
        have cv1 : wb.cell? ⟨g + 1, 1, none⟩ = some (.string ⟨tt.toArray⟩) := (h7).cell 1
        have fcv1 := (h7).frozen 1
        have cv2 : wb.cell? ⟨g + 1, 2, none⟩ = some (.int .i64 tn) := (h7).cell 2
        have fcv2 := (h7).frozen 2
        have cv3 : wb.cell? ⟨g + 1, 3, none⟩ = some (.int .i64 td) := (h7).cell 3
        have fcv3 := (h7).frozen 3
        have cv4 : wb.cell? ⟨g + 1, 4, none⟩ = some (.bool ti) := (h7).cell 4
        have fcv4 := (h7).frozen 4
        have cv5 : wb.cell? ⟨g + 1, 5, none⟩ = some (.bool tid) := (h7).cell 5
        have fcv5 := (h7).frozen 5
        have cv6 : wb.cell? ⟨g + 1, 6, none⟩ = some (.slice koa K kcap) := (h7).cell 6
        have fcv6 := (h7).frozen 6
        have lcv := (h7).lt
        clear h7 ht
        go_wp2_with fail
        ((with_reducible refine (HT.out).mono ?_); rintro e w' ⟨rfl, hbw⟩)
        obtain ⟨m, rfl⟩ := grow_mk hbw
        clear hbw
        have HI := Lib.hid (And.intro (HH.out.1.grow m) (And.intro (HH.out.2.1.trans ((grow_below m).mono (by omega))) (And.intro (HH.out.2.2.1.grow m) (And.intro (HH.out.2.2.2.1.below (grow_below m)) (HH.out.2.2.2.2.grow m)))))
        clear HH HT lcv cv0 cv1 cv2 cv3 cv4 cv5 cv6 fcv0 fcv1 fcv2 fcv3 fcv4 fcv5 fcv6
        generalize grow wb m = wc at *
        go_upto_region 5 with fail
        have hb3 := below_box wc (.cells #[.int .i64 k, .slice none 0 0, .int .i64 a, .int .i64 b, .string s, .int .i64 0, .int .i64 0, .int .i64 0, .int .i64 0, .int .i64 0, .slice none 0 0, .string ⟨#[]⟩, .string ⟨#[]⟩, .bool false] 49)
        have HJ := Lib.hid (And.intro (HI.out.1.below hb3 HI.out.1.lt) (And.intro (HI.out.2.1.trans (hb3.mono (by have := HI.out.1.lt; omega))) (And.intro (HI.out.2.2.1.below hb3 HI.out.2.2.1.lt) (And.intro (HI.out.2.2.2.1.below hb3) (And.intro (HI.out.2.2.2.2.below hb3 HI.out.2.2.2.2.lt) (Blk.new wc 49 #[.int .i64 k, .slice none 0 0, .int .i64 a, .int .i64 b, .string s, .int .i64 0, .int .i64 0, .int .i64 0, .int .i64 0, .int .i64 0, .slice none 0 0, .string ⟨#[]⟩, .string ⟨#[]⟩, .bool false]))))))
        clear hb3 HI
        obtain ⟨g8, hg8⟩ : ∃ g8, wc.heap.size = g8 := ⟨_, rfl⟩
        rw [hg8] at HJ
        simp only [hg8]
        clear hg8
        generalize World.alloc wc _ = wd at *
        obtain ⟨h1, hb, hR, hvs, h7, h8⟩ := HJ.out
        have ca0 : wd.cell? ⟨g, 0, none⟩ = some (.int .i64 0) := (h1).cell 0
        have fca0 := (h1).frozen 0
        have ca1 : wd.cell? ⟨g, 1, none⟩ = some (.slice none 0 0) := (h1).cell 1
        have fca1 := (h1).frozen 1
        have ca2 : wd.cell? ⟨g, 2, none⟩ = some (.int .i64 0) := (h1).cell 2
        have fca2 := (h1).frozen 2
        have ca3 : wd.cell? ⟨g, 3, none⟩ = some (.int .i64 0) := (h1).cell 3
        have fca3 := (h1).frozen 3
        have ca4 : wd.cell? ⟨g, 4, none⟩ = some (.string ⟨#[]⟩) := (h1).cell 4
        have fca4 := (h1).frozen 4
        have ca5 : wd.cell? ⟨g, 5, none⟩ = some (.int .i64 0) := (h1).cell 5
        have fca5 := (h1).frozen 5
        have ca6 : wd.cell? ⟨g, 6, none⟩ = some (.int .i64 0) := (h1).cell 6
        have fca6 := (h1).frozen 6
        have ca7 : wd.cell? ⟨g, 7, none⟩ = some (.int .i64 0) := (h1).cell 7
        have fca7 := (h1).frozen 7
        have ca8 : wd.cell? ⟨g, 8, none⟩ = some (.int .i64 0) := (h1).cell 8
        have fca8 := (h1).frozen 8
        have ca9 : wd.cell? ⟨g, 9, none⟩ = some (.int .i64 0) := (h1).cell 9
        have fca9 := (h1).frozen 9
        have ca10 : wd.cell? ⟨g, 10, none⟩ = some (.slice none 0 0) := (h1).cell 10
        have fca10 := (h1).frozen 10
        have ca11 : wd.cell? ⟨g, 11, none⟩ = some (.string ⟨#[]⟩) := (h1).cell 11
        have fca11 := (h1).frozen 11
        have ca12 : wd.cell? ⟨g, 12, none⟩ = some (.string ⟨#[]⟩) := (h1).cell 12
        have fca12 := (h1).frozen 12
        have ca13 : wd.cell? ⟨g, 13, none⟩ = some (.bool false) := (h1).cell 13
        have fca13 := (h1).frozen 13
        have lca := (h1).lt
        have cv0 : wd.cell? ⟨g + 1, 0, none⟩ = some (.int .i64 2) := (h7).cell 0
        have fcv0 := (h7).frozen 0
        have cv1 : wd.cell? ⟨g + 1, 1, none⟩ = some (.string ⟨tt.toArray⟩) := (h7).cell 1
        have fcv1 := (h7).frozen 1
        have cv2 : wd.cell? ⟨g + 1, 2, none⟩ = some (.int .i64 tn) := (h7).cell 2
        have fcv2 := (h7).frozen 2
        have cv3 : wd.cell? ⟨g + 1, 3, none⟩ = some (.int .i64 td) := (h7).cell 3
        have fcv3 := (h7).frozen 3
        have cv4 : wd.cell? ⟨g + 1, 4, none⟩ = some (.bool ti) := (h7).cell 4
        have fcv4 := (h7).frozen 4
        have cv5 : wd.cell? ⟨g + 1, 5, none⟩ = some (.bool tid) := (h7).cell 5
        have fcv5 := (h7).frozen 5
        have cv6 : wd.cell? ⟨g + 1, 6, none⟩ = some (.slice koa K kcap) := (h7).cell 6
        have fcv6 := (h7).frozen 6
        have lcv := (h7).lt
        have cx0 : wd.cell? ⟨g8, 0, none⟩ = some (.int .i64 k) := (h8).cell 0
        have fcx0 := (h8).frozen 0
        have cx1 : wd.cell? ⟨g8, 1, none⟩ = some (.slice none 0 0) := (h8).cell 1
        have fcx1 := (h8).frozen 1
        have cx2 : wd.cell? ⟨g8, 2, none⟩ = some (.int .i64 a) := (h8).cell 2
        have fcx2 := (h8).frozen 2
        have cx3 : wd.cell? ⟨g8, 3, none⟩ = some (.int .i64 b) := (h8).cell 3
        have fcx3 := (h8).frozen 3
        have cx4 : wd.cell? ⟨g8, 4, none⟩ = some (.string s) := (h8).cell 4
        have fcx4 := (h8).frozen 4
        have cx5 : wd.cell? ⟨g8, 5, none⟩ = some (.int .i64 0) := (h8).cell 5
        have fcx5 := (h8).frozen 5
        have cx6 : wd.cell? ⟨g8, 6, none⟩ = some (.int .i64 0) := (h8).cell 6
        have fcx6 := (h8).frozen 6
        have cx7 : wd.cell? ⟨g8, 7, none⟩ = some (.int .i64 0) := (h8).cell 7
        have fcx7 := (h8).frozen 7
        have cx8 : wd.cell? ⟨g8, 8, none⟩ = some (.int .i64 0) := (h8).cell 8
        have fcx8 := (h8).frozen 8
        have cx9 : wd.cell? ⟨g8, 9, none⟩ = some (.int .i64 0) := (h8).cell 9
        have fcx9 := (h8).frozen 9
        have cx10 : wd.cell? ⟨g8, 10, none⟩ = some (.slice none 0 0) := (h8).cell 10
        have fcx10 := (h8).frozen 10
        have cx11 : wd.cell? ⟨g8, 11, none⟩ = some (.string ⟨#[]⟩) := (h8).cell 11
        have fcx11 := (h8).frozen 11
        have cx12 : wd.cell? ⟨g8, 12, none⟩ = some (.string ⟨#[]⟩) := (h8).cell 12
        have fcx12 := (h8).frozen 12
        have cx13 : wd.cell? ⟨g8, 13, none⟩ = some (.bool false) := (h8).cell 13
        have fcx13 := (h8).frozen 13
        have lcx := (h8).lt
        clear h1 hb hR hvs h7 h8
        cases ok with
        | true =>
          obtain ⟨L, hL, rfl, hL2⟩ := hX1 rfl
          go_wp2_with fail
          have hz := blk_puts [.int .i64 4, .slice none 0 0, .int .i64 a, .int .i64 b, .string s, .int .i64 0, .int .i64 0, .int .i64 0, .int .i64 0, .int .i64 0, .slice none 0 0, .string ⟨#[]⟩, .string ⟨#[]⟩, .bool false] zero14.toList (wd) 0 [] HJ.out.1 rfl rfl
          have hbz := HJ.out.2.1.trans (below_put14 [.int .i64 4, .slice none 0 0, .int .i64 a, .int .i64 b, .string s, .int .i64 0, .int .i64 0, .int .i64 0, .int .i64 0, .int .i64 0, .slice none 0 0, .string ⟨#[]⟩, .string ⟨#[]⟩, .bool false] (wd) g 0)
          have hgz := grownBy_puts [.int .i64 4, .slice none 0 0, .int .i64 a, .int .i64 b, .string s, .int .i64 0, .int .i64 0, .int .i64 0, .int .i64 0, .int .i64 0, .slice none 0 0, .string ⟨#[]⟩, .string ⟨#[]⟩, .bool false] (wd) g 0
          simp only [puts, Nat.zero_add, Nat.reduceAdd] at hz hbz hgz
          refine bodyPost_ret (v := .agg #[.int .i64 4, .slice none 0 0, .int .i64 a, .int .i64 b, .string s, .int .i64 0, .int .i64 0, .int .i64 0, .int .i64 0, .int .i64 0, .slice none 0 0, .string ⟨#[]⟩, .string ⟨#[]⟩, .bool false]) ?_ rfl ?_
          · refine ret_cd Try.results126 ?_ hz rfl
            rfl
          · refine ⟨?_, by rw [HG.out]; exact hbz⟩
            rw [partEnd_some hopv]
            refine ⟨_, rfl, ?_⟩
            rw [pQ_leaf (hX.trans hL)]
            obtain ⟨i1, i2⟩ := leafF_64 (hX.trans hL)
            subst hL2
            exact leaf_qd _ _ i1 i2
        | false =>
          have hX2 := hX0 rfl
          go_wp2_with fail
          have hz := blk_puts [.int .i64 4, .slice none 0 0, .int .i64 0, .int .i64 0, .string ⟨#[]⟩, .int .i64 0, .int .i64 0, .int .i64 0, .int .i64 0, .int .i64 0, .slice none 0 0, .string ⟨#[]⟩, .string ⟨#[]⟩, .bool false] zero14.toList (wd) 0 [] HJ.out.1 rfl rfl
          have hbz := HJ.out.2.1.trans (below_put14 [.int .i64 4, .slice none 0 0, .int .i64 0, .int .i64 0, .string ⟨#[]⟩, .int .i64 0, .int .i64 0, .int .i64 0, .int .i64 0, .int .i64 0, .slice none 0 0, .string ⟨#[]⟩, .string ⟨#[]⟩, .bool false] (wd) g 0)
          have hgz := grownBy_puts [.int .i64 4, .slice none 0 0, .int .i64 0, .int .i64 0, .string ⟨#[]⟩, .int .i64 0, .int .i64 0, .int .i64 0, .int .i64 0, .int .i64 0, .slice none 0 0, .string ⟨#[]⟩, .string ⟨#[]⟩, .bool false] (wd) g 0
          simp only [puts, Nat.zero_add, Nat.reduceAdd] at hz hbz hgz
          refine bodyPost_ret (v := .agg #[.int .i64 4, .slice none 0 0, .int .i64 0, .int .i64 0, .string ⟨#[]⟩, .int .i64 0, .int .i64 0, .int .i64 0, .int .i64 0, .int .i64 0, .slice none 0 0, .string ⟨#[]⟩, .string ⟨#[]⟩, .bool false]) ?_ rfl ?_
          · refine ret_cd Try.results126 ?_ hz rfl
            rfl
          · refine ⟨?_, by rw [HG.out]; exact hbz⟩
            rw [partEnd_some hopv]
            refine ⟨_, rfl, ?_⟩
            rw [pQ_fun (hX.trans hX2)]
            exact leaf_qd _ _ (by unfold I64 zeroQ; decide) (by unfold I64 zeroQ; decide)
    · have gk : (tk != 21) = true := by rw [bne_iff_ne]; exact fun e => hop (Or.inl e)
      have gk2 : (tk != 2) = true := by rw [bne_iff_ne]; exact fun e => hop (Or.inr e)
      have hopv : opensV (.mk ⟨tk, tt, (tn, td), ti, tid⟩ (kids.map Vl.c)) = false := by
        unfold opensV
        rw [Bool.or_eq_false_iff]
        exact ⟨beq_eq_false_iff_ne.2 fun e => hop (Or.inl e), beq_eq_false_iff_ne.2 fun e => hop (Or.inr e)⟩
      go_wp2_with fail
      refine ⟨rfl, ?_, ?_⟩
      · rw [partEnd_not hopv]
        rfl
      · rw [HG.out]
        exact H.out.2.1
  · have gi : decide ((N : Int) ≤ (i : Int)) = true := by simp; omega
    have gin : decide (N ≤ i) = true := by simp; omega
    obtain rfl : Y = none := by
      rw [← HY.out, List.getElem?_eq_none]
      rw [List.length_map, HN.out]
      omega
    go_wp2_with fail
    refine ⟨rfl, rfl, ?_⟩
    rw [HG.out]
    exact H.out.2.1

end Go.Proofs.Ytgjhaanpkfheeaa

namespace Go.Proofs.Ytgjhaanpkfheeaa
set_option linter.unusedVariables false
set_option linter.unusedSimpArgs false
open Go.RowKit

theorem like_bare (L : Int × Int × List UInt8) : likeB (bareL L) (bareL L) true = true := by simp [likeB]
theorem leaf_same (a b2 : Int) (s : List UInt8) (w : World) : Calls Try.prog 95 #[.agg #[.int .i64 a, .int .i64 b2, .string ⟨s.toArray⟩, .int .i64 0, .int .i64 0, .int .i64 0, .int .i64 0, .int .i64 0, .slice none 0 0, .string ⟨#[]⟩, .string ⟨#[]⟩, .bool false], .agg #[.int .i64 a, .int .i64 b2, .string ⟨s.toArray⟩, .int .i64 0, .int .i64 0, .int .i64 0, .int .i64 0, .int .i64 0, .slice none 0 0, .string ⟨#[]⟩, .string ⟨#[]⟩, .bool false]] w fun x w' => x = .returned (.bool true) ∧ Below w.heap.size w w' := by
  have h := rlike_any (bareL (a, b2, s)) (bareL (a, b2, s)) true w fun wx _ => rsame_zero 1 zeroX wx (ExIn.leaf (A := fun _ => False) (k := 0) (n := 0) (d := 0) (u := 0) (i64_small _ (by decide)) (by unfold Is64; decide) (i64_small _ (by decide))).here
  rw [like_bare] at h
  exact h

theorem bare_cells (x : Cd) (h : x.bare) : ∃ (k : Int) (oa : Option Addr) (n cap : Nat) (L : Int × Int × List UInt8), ccells x = qcells k (.slice oa n cap) L := by
  obtain ⟨k, oa, b, o, cap, kids, lf⟩ := x
  rw [Cd.bare_mk] at h
  refine ⟨k, oa, kids.length, cap, lf.q, ?_⟩
  rw [Lf.of_bare h.1]
  rfl

set_option maxRecDepth 20000 in
set_option maxHeartbeats 8000000 in
theorem qsame_any : ∀ (h : Nat) (x y : Cd) (w : World), CdIn w h x → CdIn w h y → x.q = y.q → x.bare → y.bare →
    Calls Try.prog 59 #[cv x, cv y] w fun e w' => e = .returned (.bool true) ∧ Below w.heap.size w w' := by
  intro h
  induction h with
  | zero => exact fun _ _ _ h => h.elim
  | succ h ih =>
    intro x y w hx hy hxy hbx hby
    obtain ⟨k, oa, b, o, cap, kids, lf⟩ := x
    obtain ⟨k', oa', b', o', cap', kids', lf'⟩ := y
    rw [Cd.q_mk, Cd.q_mk] at hxy
    injection hxy with e1 e2 e3
    subst e1
    rw [Cd.bare_mk] at hbx hby
    have el := Lf.of_bare hbx.1
    have el' := Lf.of_bare hby.1
    rw [← e3] at el'
    obtain ⟨⟨a, b2, s⟩, hL⟩ : ∃ L, lf.q = L := ⟨_, rfl⟩
    rw [hL] at el el'
    obtain ⟨n, hn⟩ : ∃ n, kids.length = n := ⟨_, rfl⟩
    have hn' : kids'.length = n := by
      have := congrArg List.length e2
      simpa [hn] using this.symm
    obtain ⟨_, _, h4, h5, _, h7, h8⟩ := hx
    obtain ⟨_, _, h4', h5', _, h7', h8'⟩ := hy
    rw [hn] at h4 h7
    rw [hn'] at h4' h7'
    have hcv : cv (.mk k oa b o cap kids lf) = .agg #[.int .i64 k, .slice oa n cap, .int .i64 a, .int .i64 b2, .string ⟨s.toArray⟩, .int .i64 0, .int .i64 0, .int .i64 0, .int .i64 0, .int .i64 0, .slice none 0 0, .string ⟨#[]⟩, .string ⟨#[]⟩, .bool false] := by
      rw [el, ← hn]
      rfl
    have hcv' : cv (.mk k oa' b' o' cap' kids' lf') = .agg #[.int .i64 k, .slice oa' n cap', .int .i64 a, .int .i64 b2, .string ⟨s.toArray⟩, .int .i64 0, .int .i64 0, .int .i64 0, .int .i64 0, .int .i64 0, .slice none 0 0, .string ⟨#[]⟩, .string ⟨#[]⟩, .bool false] := by
      rw [el', ← hn']
      rfl
    rw [hcv, hcv']
    have hsm : n ≤ 9223372036854775807 := Nat.le_trans (Nat.le_trans h4 h5) (by decide)
    have HIH := Lib.hid (And.intro ih (And.intro e2 (And.intro hbx.2 hby.2)))
    have HN := Lib.hid (And.intro hn hn')
    have HLS := Lib.hid (leaf_same a b2 s)
    have HK := Lib.hid (And.intro (And.intro h7 h8) (And.intro h7' h8'))
    clear ih e2 e3 hbx hby el el' hL hn hn' hcv hcv' h7 h8 h7' h8'
    have hb := below_box w (.cells #[.int .i64 k, .slice oa n cap, .int .i64 a, .int .i64 b2, .string ⟨s.toArray⟩, .int .i64 0, .int .i64 0, .int .i64 0, .int .i64 0, .int .i64 0, .slice none 0 0, .string ⟨#[]⟩, .string ⟨#[]⟩, .bool false] 49)
    have h1 := (Blk.new w 49 #[.int .i64 k, .slice oa n cap, .int .i64 a, .int .i64 b2, .string ⟨s.toArray⟩, .int .i64 0, .int .i64 0, .int .i64 0, .int .i64 0, .int .i64 0, .slice none 0 0, .string ⟨#[]⟩, .string ⟨#[]⟩, .bool false]).old (.cells #[.int .i64 k, .slice oa' n cap', .int .i64 a, .int .i64 b2, .string ⟨s.toArray⟩, .int .i64 0, .int .i64 0, .int .i64 0, .int .i64 0, .int .i64 0, .slice none 0 0, .string ⟨#[]⟩, .string ⟨#[]⟩, .bool false] 49)
    have h2 := Blk.new (w.alloc (.cells #[.int .i64 k, .slice oa n cap, .int .i64 a, .int .i64 b2, .string ⟨s.toArray⟩, .int .i64 0, .int .i64 0, .int .i64 0, .int .i64 0, .int .i64 0, .slice none 0 0, .string ⟨#[]⟩, .string ⟨#[]⟩, .bool false] 49)) 49 #[.int .i64 k, .slice oa' n cap', .int .i64 a, .int .i64 b2, .string ⟨s.toArray⟩, .int .i64 0, .int .i64 0, .int .i64 0, .int .i64 0, .int .i64 0, .slice none 0 0, .string ⟨#[]⟩, .string ⟨#[]⟩, .bool false]
    have hb2 := hb.alloc (by simp) (.cells #[.int .i64 k, .slice oa' n cap', .int .i64 a, .int .i64 b2, .string ⟨s.toArray⟩, .int .i64 0, .int .i64 0, .int .i64 0, .int .i64 0, .int .i64 0, .slice none 0 0, .string ⟨#[]⟩, .string ⟨#[]⟩, .bool false] 49)
    have hs2 : (w.alloc (.cells #[.int .i64 k, .slice oa n cap, .int .i64 a, .int .i64 b2, .string ⟨s.toArray⟩, .int .i64 0, .int .i64 0, .int .i64 0, .int .i64 0, .int .i64 0, .slice none 0 0, .string ⟨#[]⟩, .string ⟨#[]⟩, .bool false] 49)).heap.size = w.heap.size + 1 := by simp
    rw [hs2] at h2
    have H := Lib.hid (And.intro h1 (And.intro h2 hb2))
    clear h1 h2 hb hb2 hs2
    go_enter Try.func59, Try.ntmps59
    go_upto_region 1 with fail
    obtain ⟨g, hg⟩ : ∃ g, w.heap.size = g := ⟨_, rfl⟩
    rw [hg] at H
    simp only [hg]
    have HG := Lib.hid hg
    clear hg
    generalize World.alloc (World.alloc w _) _ = wa at *
    have h1 := H.out.1
    have h2 := H.out.2.1
    have ca0 : wa.cell? ⟨g, 0, none⟩ = some (.int .i64 k) := (h1).cell 0
    have fca0 := (h1).frozen 0
    have ca1 : wa.cell? ⟨g, 1, none⟩ = some (.slice oa n cap) := (h1).cell 1
    have fca1 := (h1).frozen 1
    have ca2 : wa.cell? ⟨g, 2, none⟩ = some (.int .i64 a) := (h1).cell 2
    have fca2 := (h1).frozen 2
    have ca3 : wa.cell? ⟨g, 3, none⟩ = some (.int .i64 b2) := (h1).cell 3
    have fca3 := (h1).frozen 3
    have ca4 : wa.cell? ⟨g, 4, none⟩ = some (.string ⟨s.toArray⟩) := (h1).cell 4
    have fca4 := (h1).frozen 4
    have ca5 : wa.cell? ⟨g, 5, none⟩ = some (.int .i64 0) := (h1).cell 5
    have fca5 := (h1).frozen 5
    have ca6 : wa.cell? ⟨g, 6, none⟩ = some (.int .i64 0) := (h1).cell 6
    have fca6 := (h1).frozen 6
    have ca7 : wa.cell? ⟨g, 7, none⟩ = some (.int .i64 0) := (h1).cell 7
    have fca7 := (h1).frozen 7
    have ca8 : wa.cell? ⟨g, 8, none⟩ = some (.int .i64 0) := (h1).cell 8
    have fca8 := (h1).frozen 8
    have ca9 : wa.cell? ⟨g, 9, none⟩ = some (.int .i64 0) := (h1).cell 9
    have fca9 := (h1).frozen 9
    have ca10 : wa.cell? ⟨g, 10, none⟩ = some (.slice none 0 0) := (h1).cell 10
    have fca10 := (h1).frozen 10
    have ca11 : wa.cell? ⟨g, 11, none⟩ = some (.string ⟨#[]⟩) := (h1).cell 11
    have fca11 := (h1).frozen 11
    have ca12 : wa.cell? ⟨g, 12, none⟩ = some (.string ⟨#[]⟩) := (h1).cell 12
    have fca12 := (h1).frozen 12
    have ca13 : wa.cell? ⟨g, 13, none⟩ = some (.bool false) := (h1).cell 13
    have fca13 := (h1).frozen 13
    have lca := (h1).lt
    have cb0 : wa.cell? ⟨g + 1, 0, none⟩ = some (.int .i64 k) := (h2).cell 0
    have fcb0 := (h2).frozen 0
    have cb1 : wa.cell? ⟨g + 1, 1, none⟩ = some (.slice oa' n cap') := (h2).cell 1
    have fcb1 := (h2).frozen 1
    have cb2 : wa.cell? ⟨g + 1, 2, none⟩ = some (.int .i64 a) := (h2).cell 2
    have fcb2 := (h2).frozen 2
    have cb3 : wa.cell? ⟨g + 1, 3, none⟩ = some (.int .i64 b2) := (h2).cell 3
    have fcb3 := (h2).frozen 3
    have cb4 : wa.cell? ⟨g + 1, 4, none⟩ = some (.string ⟨s.toArray⟩) := (h2).cell 4
    have fcb4 := (h2).frozen 4
    have cb5 : wa.cell? ⟨g + 1, 5, none⟩ = some (.int .i64 0) := (h2).cell 5
    have fcb5 := (h2).frozen 5
    have cb6 : wa.cell? ⟨g + 1, 6, none⟩ = some (.int .i64 0) := (h2).cell 6
    have fcb6 := (h2).frozen 6
    have cb7 : wa.cell? ⟨g + 1, 7, none⟩ = some (.int .i64 0) := (h2).cell 7
    have fcb7 := (h2).frozen 7
    have cb8 : wa.cell? ⟨g + 1, 8, none⟩ = some (.int .i64 0) := (h2).cell 8
    have fcb8 := (h2).frozen 8
    have cb9 : wa.cell? ⟨g + 1, 9, none⟩ = some (.int .i64 0) := (h2).cell 9
    have fcb9 := (h2).frozen 9
    have cb10 : wa.cell? ⟨g + 1, 10, none⟩ = some (.slice none 0 0) := (h2).cell 10
    have fcb10 := (h2).frozen 10
    have cb11 : wa.cell? ⟨g + 1, 11, none⟩ = some (.string ⟨#[]⟩) := (h2).cell 11
    have fcb11 := (h2).frozen 11
    have cb12 : wa.cell? ⟨g + 1, 12, none⟩ = some (.string ⟨#[]⟩) := (h2).cell 12
    have fcb12 := (h2).frozen 12
    have cb13 : wa.cell? ⟨g + 1, 13, none⟩ = some (.bool false) := (h2).cell 13
    have fcb13 := (h2).frozen 13
    have lcb := (h2).lt
    clear h1 h2
    go_wp2_with fail
    ((with_reducible refine (HLS.out _).mono ?_); rintro e w' ⟨rfl, hbw⟩)
    obtain ⟨m0, rfl⟩ := grow_mk hbw
    clear hbw
    have HB := Lib.hid (And.intro (H.out.1.grow m0) (And.intro (H.out.2.1.grow m0) (H.out.2.2.trans ((grow_below m0).mono (Nat.le_of_lt lca)))))
    have hbw := H.out.2.2.trans ((grow_below m0).mono (Nat.le_of_lt lca))
    clear H ca0 fca0 cb0 fcb0 ca1 fca1 cb1 fcb1 ca2 fca2 cb2 fcb2 ca3 fca3 cb3 fcb3 ca4 fca4 cb4 fcb4 ca5 fca5 cb5 fcb5 ca6 fca6 cb6 fcb6 ca7 fca7 cb7 fcb7 ca8 fca8 cb8 fcb8 ca9 fca9 cb9 fcb9 ca10 fca10 cb10 fcb10 ca11 fca11 cb11 fcb11 ca12 fca12 cb12 fcb12 ca13 fca13 cb13 fcb13 lca lcb
    generalize grow wa m0 = wb at *
    have h1 := HB.out.1
    have h2 := HB.out.2.1
    have ca0 : wb.cell? ⟨g, 0, none⟩ = some (.int .i64 k) := (h1).cell 0
    have fca0 := (h1).frozen 0
    have ca1 : wb.cell? ⟨g, 1, none⟩ = some (.slice oa n cap) := (h1).cell 1
    have fca1 := (h1).frozen 1
    have ca2 : wb.cell? ⟨g, 2, none⟩ = some (.int .i64 a) := (h1).cell 2
    have fca2 := (h1).frozen 2
    have ca3 : wb.cell? ⟨g, 3, none⟩ = some (.int .i64 b2) := (h1).cell 3
    have fca3 := (h1).frozen 3
    have ca4 : wb.cell? ⟨g, 4, none⟩ = some (.string ⟨s.toArray⟩) := (h1).cell 4
    have fca4 := (h1).frozen 4
    have ca5 : wb.cell? ⟨g, 5, none⟩ = some (.int .i64 0) := (h1).cell 5
    have fca5 := (h1).frozen 5
    have ca6 : wb.cell? ⟨g, 6, none⟩ = some (.int .i64 0) := (h1).cell 6
    have fca6 := (h1).frozen 6
    have ca7 : wb.cell? ⟨g, 7, none⟩ = some (.int .i64 0) := (h1).cell 7
    have fca7 := (h1).frozen 7
    have ca8 : wb.cell? ⟨g, 8, none⟩ = some (.int .i64 0) := (h1).cell 8
    have fca8 := (h1).frozen 8
    have ca9 : wb.cell? ⟨g, 9, none⟩ = some (.int .i64 0) := (h1).cell 9
    have fca9 := (h1).frozen 9
    have ca10 : wb.cell? ⟨g, 10, none⟩ = some (.slice none 0 0) := (h1).cell 10
    have fca10 := (h1).frozen 10
    have ca11 : wb.cell? ⟨g, 11, none⟩ = some (.string ⟨#[]⟩) := (h1).cell 11
    have fca11 := (h1).frozen 11
    have ca12 : wb.cell? ⟨g, 12, none⟩ = some (.string ⟨#[]⟩) := (h1).cell 12
    have fca12 := (h1).frozen 12
    have ca13 : wb.cell? ⟨g, 13, none⟩ = some (.bool false) := (h1).cell 13
    have fca13 := (h1).frozen 13
    have lca := (h1).lt
    have cb0 : wb.cell? ⟨g + 1, 0, none⟩ = some (.int .i64 k) := (h2).cell 0
    have fcb0 := (h2).frozen 0
    have cb1 : wb.cell? ⟨g + 1, 1, none⟩ = some (.slice oa' n cap') := (h2).cell 1
    have fcb1 := (h2).frozen 1
    have cb2 : wb.cell? ⟨g + 1, 2, none⟩ = some (.int .i64 a) := (h2).cell 2
    have fcb2 := (h2).frozen 2
    have cb3 : wb.cell? ⟨g + 1, 3, none⟩ = some (.int .i64 b2) := (h2).cell 3
    have fcb3 := (h2).frozen 3
    have cb4 : wb.cell? ⟨g + 1, 4, none⟩ = some (.string ⟨s.toArray⟩) := (h2).cell 4
    have fcb4 := (h2).frozen 4
    have cb5 : wb.cell? ⟨g + 1, 5, none⟩ = some (.int .i64 0) := (h2).cell 5
    have fcb5 := (h2).frozen 5
    have cb6 : wb.cell? ⟨g + 1, 6, none⟩ = some (.int .i64 0) := (h2).cell 6
    have fcb6 := (h2).frozen 6
    have cb7 : wb.cell? ⟨g + 1, 7, none⟩ = some (.int .i64 0) := (h2).cell 7
    have fcb7 := (h2).frozen 7
    have cb8 : wb.cell? ⟨g + 1, 8, none⟩ = some (.int .i64 0) := (h2).cell 8
    have fcb8 := (h2).frozen 8
    have cb9 : wb.cell? ⟨g + 1, 9, none⟩ = some (.int .i64 0) := (h2).cell 9
    have fcb9 := (h2).frozen 9
    have cb10 : wb.cell? ⟨g + 1, 10, none⟩ = some (.slice none 0 0) := (h2).cell 10
    have fcb10 := (h2).frozen 10
    have cb11 : wb.cell? ⟨g + 1, 11, none⟩ = some (.string ⟨#[]⟩) := (h2).cell 11
    have fcb11 := (h2).frozen 11
    have cb12 : wb.cell? ⟨g + 1, 12, none⟩ = some (.string ⟨#[]⟩) := (h2).cell 12
    have fcb12 := (h2).frozen 12
    have cb13 : wb.cell? ⟨g + 1, 13, none⟩ = some (.bool false) := (h2).cell 13
    have fcb13 := (h2).frozen 13
    have lcb := (h2).lt
    clear h1 h2
    go_wp2_with fail
    go_loopg [31] n (fun kk sv wr => ∃ (i : Nat), sv = .int .i64 i ∧ Hid (Blk wr g 49 #[.int .i64 k, .slice oa n cap, .int .i64 a, .int .i64 b2, .string ⟨s.toArray⟩, .int .i64 0, .int .i64 0, .int .i64 0, .int .i64 0, .int .i64 0, .slice none 0 0, .string ⟨#[]⟩, .string ⟨#[]⟩, .bool false]) ∧ Hid (Blk wr (g + 1) 49 #[.int .i64 k, .slice oa' n cap', .int .i64 a, .int .i64 b2, .string ⟨s.toArray⟩, .int .i64 0, .int .i64 0, .int .i64 0, .int .i64 0, .int .i64 0, .slice none 0 0, .string ⟨#[]⟩, .string ⟨#[]⟩, .bool false]) ∧ Hid (Below g w wr) ∧ i ≤ n ∧ n - i ≤ kk)
    case atStart => exact ⟨0, rfl, Lib.hid HB.out.1, Lib.hid HB.out.2.1, Lib.hid HB.out.2.2, Nat.zero_le _, Nat.le_refl _⟩
    case round =>
      clear ca0 fca0 cb0 fcb0 ca1 fca1 cb1 fcb1 ca2 fca2 cb2 fcb2 ca3 fca3 cb3 fcb3 ca4 fca4 cb4 fcb4 ca5 fca5 cb5 fcb5 ca6 fca6 cb6 fcb6 ca7 fca7 cb7 fcb7 ca8 fca8 cb8 fcb8 ca9 fca9 cb9 fcb9 ca10 fca10 cb10 fcb10 ca11 fca11 cb11 fcb11 ca12 fca12 cb12 fcb12 ca13 fca13 cb13 fcb13 lca lcb HB hbw
      obtain ⟨i, rfl, hA, hBk, hbel, hle, hk2⟩ := hrel
      by_cases hi : i < n
      · have gi : decide ((i : Int) < (n : Int)) = true := by simpa using hi
        have gin : decide (i < n) = true := by simpa using hi
        have hil : i < kids.length := by rw [HN.out.1]; exact hi
        have hil' : i < kids'.length := by rw [HN.out.2]; exact hi
        have hr : kids[i]? = some kids[i] := List.getElem?_eq_getElem hil
        have hr' : kids'[i]? = some kids'[i] := List.getElem?_eq_getElem hil'
        have hmx := List.getElem_mem hil
        have hmy := List.getElem_mem hil'
        obtain ⟨⟨h7, h8⟩, h7', h8'⟩ := HK.out
        have hx := h8 i _ hr
        have hx' := h8' i _ hr'
        have hqq : kids[i].q = kids'[i].q := by
          have e := congrArg (·[i]?) HIH.out.2.1
          simp only [List.getElem?_map, hr, hr'] at e
          exact Option.some.inj e
        obtain ⟨rfl, hbl⟩ := h7 (by omega)
        obtain ⟨rfl, hbl'⟩ := h7' (by omega)
        have hbx := HIH.out.2.2.1 _ hmx
        have hby := HIH.out.2.2.2 _ hmy
        have hbw := Lib.hid (show Below w.heap.size w wr by rw [HG.out]; exact hbel.out)
        have hX := fun wx (hb : Below w.heap.size w wx) => HIH.out.1 kids[i] kids'[i] wx (hx.2.below (w' := wx) _ hb) (hx'.2.below (w' := wx) _ hb) hqq hbx hby
        clear hqq hmx hmy hr hr'
        generalize kids[i] = x at *
        generalize kids'[i] = y at *
        obtain ⟨xk, xo, xn, xc, ⟨xa, xb, xs⟩, hxc⟩ := bare_cells x hbx
        obtain ⟨yk, yo, yn, yc, ⟨ya, yb, ys⟩, hyc⟩ := bare_cells y hby
        have hvx : cv x = .agg #[.int .i64 xk, .slice xo xn xc, .int .i64 xa, .int .i64 xb, .string ⟨xs.toArray⟩, .int .i64 0, .int .i64 0, .int .i64 0, .int .i64 0, .int .i64 0, .slice none 0 0, .string ⟨#[]⟩, .string ⟨#[]⟩, .bool false] := by
          unfold cv
          rw [hxc]
          rfl
        have hvy : cv y = .agg #[.int .i64 yk, .slice yo yn yc, .int .i64 ya, .int .i64 yb, .string ⟨ys.toArray⟩, .int .i64 0, .int .i64 0, .int .i64 0, .int .i64 0, .int .i64 0, .slice none 0 0, .string ⟨#[]⟩, .string ⟨#[]⟩, .bool false] := by
          unfold cv
          rw [hyc]
          rfl
        rw [hvx, hvy] at hX
        have HX := Lib.hid hX
        have f0 : wr.cell? ⟨b, o + i * 14, none⟩ = some (.int .i64 xk) := (hbw.out.cell hbl).trans (hx.1 0 _ (by rw [hxc]; rfl))
        have f1 : wr.cell? ⟨b, o + i * 14 + 1, none⟩ = some (.slice xo xn xc) := (hbw.out.cell hbl).trans (hx.1 1 _ (by rw [hxc]; rfl))
        have f2 : wr.cell? ⟨b, o + i * 14 + 2, none⟩ = some (.int .i64 xa) := (hbw.out.cell hbl).trans (hx.1 2 _ (by rw [hxc]; rfl))
        have f3 : wr.cell? ⟨b, o + i * 14 + 3, none⟩ = some (.int .i64 xb) := (hbw.out.cell hbl).trans (hx.1 3 _ (by rw [hxc]; rfl))
        have f4 : wr.cell? ⟨b, o + i * 14 + 4, none⟩ = some (.string ⟨xs.toArray⟩) := (hbw.out.cell hbl).trans (hx.1 4 _ (by rw [hxc]; rfl))
        have f5 : wr.cell? ⟨b, o + i * 14 + 5, none⟩ = some (.int .i64 0) := (hbw.out.cell hbl).trans (hx.1 5 _ (by rw [hxc]; rfl))
        have f6 : wr.cell? ⟨b, o + i * 14 + 6, none⟩ = some (.int .i64 0) := (hbw.out.cell hbl).trans (hx.1 6 _ (by rw [hxc]; rfl))
        have f7 : wr.cell? ⟨b, o + i * 14 + 7, none⟩ = some (.int .i64 0) := (hbw.out.cell hbl).trans (hx.1 7 _ (by rw [hxc]; rfl))
        have f8 : wr.cell? ⟨b, o + i * 14 + 8, none⟩ = some (.int .i64 0) := (hbw.out.cell hbl).trans (hx.1 8 _ (by rw [hxc]; rfl))
        have f9 : wr.cell? ⟨b, o + i * 14 + 9, none⟩ = some (.int .i64 0) := (hbw.out.cell hbl).trans (hx.1 9 _ (by rw [hxc]; rfl))
        have f10 : wr.cell? ⟨b, o + i * 14 + 10, none⟩ = some (.slice none 0 0) := (hbw.out.cell hbl).trans (hx.1 10 _ (by rw [hxc]; rfl))
        have f11 : wr.cell? ⟨b, o + i * 14 + 11, none⟩ = some (.string ⟨#[]⟩) := (hbw.out.cell hbl).trans (hx.1 11 _ (by rw [hxc]; rfl))
        have f12 : wr.cell? ⟨b, o + i * 14 + 12, none⟩ = some (.string ⟨#[]⟩) := (hbw.out.cell hbl).trans (hx.1 12 _ (by rw [hxc]; rfl))
        have f13 : wr.cell? ⟨b, o + i * 14 + 13, none⟩ = some (.bool false) := (hbw.out.cell hbl).trans (hx.1 13 _ (by rw [hxc]; rfl))
        have e0 : wr.cell? ⟨b', o' + i * 14, none⟩ = some (.int .i64 yk) := (hbw.out.cell hbl').trans (hx'.1 0 _ (by rw [hyc]; rfl))
        have e1 : wr.cell? ⟨b', o' + i * 14 + 1, none⟩ = some (.slice yo yn yc) := (hbw.out.cell hbl').trans (hx'.1 1 _ (by rw [hyc]; rfl))
        have e2 : wr.cell? ⟨b', o' + i * 14 + 2, none⟩ = some (.int .i64 ya) := (hbw.out.cell hbl').trans (hx'.1 2 _ (by rw [hyc]; rfl))
        have e3 : wr.cell? ⟨b', o' + i * 14 + 3, none⟩ = some (.int .i64 yb) := (hbw.out.cell hbl').trans (hx'.1 3 _ (by rw [hyc]; rfl))
        have e4 : wr.cell? ⟨b', o' + i * 14 + 4, none⟩ = some (.string ⟨ys.toArray⟩) := (hbw.out.cell hbl').trans (hx'.1 4 _ (by rw [hyc]; rfl))
        have e5 : wr.cell? ⟨b', o' + i * 14 + 5, none⟩ = some (.int .i64 0) := (hbw.out.cell hbl').trans (hx'.1 5 _ (by rw [hyc]; rfl))
        have e6 : wr.cell? ⟨b', o' + i * 14 + 6, none⟩ = some (.int .i64 0) := (hbw.out.cell hbl').trans (hx'.1 6 _ (by rw [hyc]; rfl))
        have e7 : wr.cell? ⟨b', o' + i * 14 + 7, none⟩ = some (.int .i64 0) := (hbw.out.cell hbl').trans (hx'.1 7 _ (by rw [hyc]; rfl))
        have e8 : wr.cell? ⟨b', o' + i * 14 + 8, none⟩ = some (.int .i64 0) := (hbw.out.cell hbl').trans (hx'.1 8 _ (by rw [hyc]; rfl))
        have e9 : wr.cell? ⟨b', o' + i * 14 + 9, none⟩ = some (.int .i64 0) := (hbw.out.cell hbl').trans (hx'.1 9 _ (by rw [hyc]; rfl))
        have e10 : wr.cell? ⟨b', o' + i * 14 + 10, none⟩ = some (.slice none 0 0) := (hbw.out.cell hbl').trans (hx'.1 10 _ (by rw [hyc]; rfl))
        have e11 : wr.cell? ⟨b', o' + i * 14 + 11, none⟩ = some (.string ⟨#[]⟩) := (hbw.out.cell hbl').trans (hx'.1 11 _ (by rw [hyc]; rfl))
        have e12 : wr.cell? ⟨b', o' + i * 14 + 12, none⟩ = some (.string ⟨#[]⟩) := (hbw.out.cell hbl').trans (hx'.1 12 _ (by rw [hyc]; rfl))
        have e13 : wr.cell? ⟨b', o' + i * 14 + 13, none⟩ = some (.bool false) := (hbw.out.cell hbl').trans (hx'.1 13 _ (by rw [hyc]; rfl))
        have lb : b < wr.heap.size := Nat.lt_of_lt_of_le hbl hbw.out.size
        have lb' : b' < wr.heap.size := Nat.lt_of_lt_of_le hbl' hbw.out.size
        have h1 := hA.out
        have h2 := hBk.out
        have ca0 : wr.cell? ⟨g, 0, none⟩ = some (.int .i64 k) := (h1).cell 0
        have fca0 := (h1).frozen 0
        have ca1 : wr.cell? ⟨g, 1, none⟩ = some (.slice (some ⟨b, o, none⟩) n cap) := (h1).cell 1
        have fca1 := (h1).frozen 1
        have ca2 : wr.cell? ⟨g, 2, none⟩ = some (.int .i64 a) := (h1).cell 2
        have fca2 := (h1).frozen 2
        have ca3 : wr.cell? ⟨g, 3, none⟩ = some (.int .i64 b2) := (h1).cell 3
        have fca3 := (h1).frozen 3
        have ca4 : wr.cell? ⟨g, 4, none⟩ = some (.string ⟨s.toArray⟩) := (h1).cell 4
        have fca4 := (h1).frozen 4
        have ca5 : wr.cell? ⟨g, 5, none⟩ = some (.int .i64 0) := (h1).cell 5
        have fca5 := (h1).frozen 5
        have ca6 : wr.cell? ⟨g, 6, none⟩ = some (.int .i64 0) := (h1).cell 6
        have fca6 := (h1).frozen 6
        have ca7 : wr.cell? ⟨g, 7, none⟩ = some (.int .i64 0) := (h1).cell 7
        have fca7 := (h1).frozen 7
        have ca8 : wr.cell? ⟨g, 8, none⟩ = some (.int .i64 0) := (h1).cell 8
        have fca8 := (h1).frozen 8
        have ca9 : wr.cell? ⟨g, 9, none⟩ = some (.int .i64 0) := (h1).cell 9
        have fca9 := (h1).frozen 9
        have ca10 : wr.cell? ⟨g, 10, none⟩ = some (.slice none 0 0) := (h1).cell 10
        have fca10 := (h1).frozen 10
        have ca11 : wr.cell? ⟨g, 11, none⟩ = some (.string ⟨#[]⟩) := (h1).cell 11
        have fca11 := (h1).frozen 11
        have ca12 : wr.cell? ⟨g, 12, none⟩ = some (.string ⟨#[]⟩) := (h1).cell 12
        have fca12 := (h1).frozen 12
        have ca13 : wr.cell? ⟨g, 13, none⟩ = some (.bool false) := (h1).cell 13
        have fca13 := (h1).frozen 13
        have lca := (h1).lt
        have cb0 : wr.cell? ⟨g + 1, 0, none⟩ = some (.int .i64 k) := (h2).cell 0
        have fcb0 := (h2).frozen 0
        have cb1 : wr.cell? ⟨g + 1, 1, none⟩ = some (.slice (some ⟨b', o', none⟩) n cap') := (h2).cell 1
        have fcb1 := (h2).frozen 1
        have cb2 : wr.cell? ⟨g + 1, 2, none⟩ = some (.int .i64 a) := (h2).cell 2
        have fcb2 := (h2).frozen 2
        have cb3 : wr.cell? ⟨g + 1, 3, none⟩ = some (.int .i64 b2) := (h2).cell 3
        have fcb3 := (h2).frozen 3
        have cb4 : wr.cell? ⟨g + 1, 4, none⟩ = some (.string ⟨s.toArray⟩) := (h2).cell 4
        have fcb4 := (h2).frozen 4
        have cb5 : wr.cell? ⟨g + 1, 5, none⟩ = some (.int .i64 0) := (h2).cell 5
        have fcb5 := (h2).frozen 5
        have cb6 : wr.cell? ⟨g + 1, 6, none⟩ = some (.int .i64 0) := (h2).cell 6
        have fcb6 := (h2).frozen 6
        have cb7 : wr.cell? ⟨g + 1, 7, none⟩ = some (.int .i64 0) := (h2).cell 7
        have fcb7 := (h2).frozen 7
        have cb8 : wr.cell? ⟨g + 1, 8, none⟩ = some (.int .i64 0) := (h2).cell 8
        have fcb8 := (h2).frozen 8
        have cb9 : wr.cell? ⟨g + 1, 9, none⟩ = some (.int .i64 0) := (h2).cell 9
        have fcb9 := (h2).frozen 9
        have cb10 : wr.cell? ⟨g + 1, 10, none⟩ = some (.slice none 0 0) := (h2).cell 10
        have fcb10 := (h2).frozen 10
        have cb11 : wr.cell? ⟨g + 1, 11, none⟩ = some (.string ⟨#[]⟩) := (h2).cell 11
        have fcb11 := (h2).frozen 11
        have cb12 : wr.cell? ⟨g + 1, 12, none⟩ = some (.string ⟨#[]⟩) := (h2).cell 12
        have fcb12 := (h2).frozen 12
        have cb13 : wr.cell? ⟨g + 1, 13, none⟩ = some (.bool false) := (h2).cell 13
        have fcb13 := (h2).frozen 13
        have lcb := (h2).lt
        clear hx hx' h7 h8 h7' h8' hvx hvy hX hxc hyc hbx hby h1 h2
        go_wp2_with fail
        refine wp_region_grow (by kernel_rfl) (by kernel_rfl) ?_
        repeat (go_big_quiet_step ((first | (go_at_call 59; exact calls_grow (HX.out _ (below_grow hbw.out _))))))
        refine wpQuiet_nil ?_
        rintro _ ⟨m, rfl⟩
        go_wp2_with fail
        go_roundg (n - (i + 1))
        case measure => omega
        case rel => exact ⟨i + 1, by go_num, Lib.hid (hA.out.grow m), Lib.hid (hBk.out.grow m), Lib.hid (hbel.out.trans ((grow_below m).mono (Nat.le_of_lt lca))), hi, Nat.le_refl _⟩
      · obtain rfl : i = n := by omega
        have gi : decide ((i : Int) < (i : Int)) = false := by simp
        have gin : decide (i < i) = false := by simp
        go_wp2_with fail
        go_ret
        exact ⟨ret_bool rfl, by rw [HG.out]; exact hbel.out⟩

end Go.Proofs.Ytgjhaanpkfheeaa
