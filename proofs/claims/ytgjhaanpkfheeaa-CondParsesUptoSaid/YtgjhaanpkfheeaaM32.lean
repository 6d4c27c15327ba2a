/- Of my texts: PackQ, QSame. -/
import Derived.Test.YtgjhaanpkfheeaaM19
import Derived.Test.YtgjhaanpkfheeaaM23
import Derived.Test.YtgjhaanpkfheeaaM31
namespace Go.Proofs.Ytgjhaanpkfheeaa
set_option linter.unusedVariables false
set_option linter.unusedSimpArgs false
open Go.RowKit

set_option maxRecDepth 20000 in
set_option maxHeartbeats 16000000 in
theorem rpack_any (h : Nat) (l : List Vl) (oa : Option Addr) (cap bb o : Nat) (w : World) (hs : VsIn w h oa cap bb o l) :
    Calls Try.prog 93 #[.slice oa l.length cap] w fun e w' => (∃ (D : List Vl) (oa' : Option Addr) (cap' b' : Nat), e = .returned (.slice oa' D.length cap') ∧ D.map Vl.c = solidV (l.map Vl.c) ∧ VsIn w' h oa' cap' b' 0 D ∧ ∀ x ∈ D, x ∈ l) ∧ Below w.heap.size w w' := by
  obtain ⟨N, hN⟩ : ∃ N, l.length = N := ⟨_, rfl⟩
  obtain ⟨L, hL⟩ : ∃ L, l.map Vl.c = L := ⟨_, rfl⟩
  rw [hN, hL]
  have hsm := hs.small
  have hcl := hs.sl.le
  have hcm := hs.sl.max
  unfold maxLen at hcm
  rw [hN] at hsm hcl
  obtain ⟨wa, hwa⟩ : ∃ wa, wa = w := ⟨_, rfl⟩
  rw [← hwa] at hs ⊢
  have HS := Lib.hid (And.intro hs (And.intro hN hL))
  clear hs hN hL hwa
  have hb0 : Below wa.heap.size wa wa := Below.refl _ _
  go_enter Try.func93, Try.ntmps93
  go_wp2_with fail
  go_loopg [3, 8] N (fun q s6 s12 wr => ∃ (i : Nat) (D : List Vl) (v : Value), s12 = .int .i64 i ∧ s6 = v ∧ Hid (Below wa.heap.size wa wr) ∧ Hid (wr.ownsRow wa.heap.size 74 7 v D.length (D.flatMap vcells)) ∧ Hid (D.map Vl.c = solidV (L.take i)) ∧ Hid (∀ x ∈ D, x ∈ l) ∧ D.length ≤ i ∧ i ≤ N ∧ N - i ≤ q)
  case atStart => exact ⟨0, [], _, rfl, rfl, Lib.hid hb0, Lib.hid (World.ownsRow_nil _ _ _ _), Lib.hid rfl, Lib.hid (fun x hx => by cases hx), Nat.le_refl _, Nat.zero_le _, Nat.le_refl _⟩
  case round =>
    obtain ⟨i, D, v, rfl, rfl, hB, hO, hD, hE, hDi, hiN, hq⟩ := hrel
    by_cases hi : i < N
    · have gi : decide ((i : Int) < (N : Int)) = true := by simpa using hi
      have gin : decide (i < N) = true := by simpa using hi
      have ij0 : (0 : Int) ≤ (i : Int) := Int.natCast_nonneg _
      have ijN : (i : Int) < (N : Int) := by omega
      have hil : i < l.length := by rw [HS.out.2.1]; exact hi
      have hli : l[i]? = some l[i] := List.getElem?_eq_getElem hil
      obtain ⟨x, hx⟩ : ∃ x, l[i] = x := ⟨_, rfl⟩
      rw [hx] at hli
      have hLi : L.take (i + 1) = L.take i ++ [x.c] := by
        rw [← HS.out.2.2, List.take_add_one, List.getElem?_map, hli]
        rfl
      have hxl := List.mem_of_getElem? hli
      have hvs := HS.out.1.below hB.out
      obtain ⟨rfl, hbl⟩ := hvs.sl.lies (by omega)
      obtain ⟨t, koa, kb, ko, kcap, kids⟩ := x
      obtain ⟨K, hK⟩ : ∃ K, kids.length = K := ⟨_, rfl⟩
      have f0 := hvs.cell hli (j := 0) rfl
      have f1 := hvs.cell hli (j := 1) rfl
      have f2 := hvs.cell hli (j := 2) rfl
      have f3 := hvs.cell hli (j := 3) rfl
      have f4 := hvs.cell hli (j := 4) rfl
      have f5 := hvs.cell hli (j := 5) rfl
      have f6 := hvs.cell hli (j := 6) rfl
      rw [Nat.add_zero] at f0
      rw [hK] at f6
      obtain ⟨tk, tt, ⟨tn, td⟩, ti, tid⟩ := t
      have hvc : vcells (.mk ⟨tk, tt, (tn, td), ti, tid⟩ koa kb ko kcap kids) = [.int .i64 tk, .string ⟨tt.toArray⟩, .int .i64 tn, .int .i64 td, .bool ti, .bool tid, .slice koa K kcap] := by rw [← hK]; rfl
      have HXL := Lib.hid (And.intro hxl (And.intro hvc hLi))
      clear hvs hli hil hx hxl hvc hLi hK
      go_upto_region 5 with fail
      have hbx := below_box wr (.cells #[.int .i64 tk, .string ⟨tt.toArray⟩, .int .i64 tn, .int .i64 td, .bool ti, .bool tid, .slice koa K kcap] 74)
      have h8 := Blk.new wr 74 #[.int .i64 tk, .string ⟨tt.toArray⟩, .int .i64 tn, .int .i64 td, .bool ti, .bool tid, .slice koa K kcap]
      have HB2 := Lib.hid (hB.out.trans (hbx.mono hB.out.size))
      have HO2 := Lib.hid (hO.out.alloc (.cells #[.int .i64 tk, .string ⟨tt.toArray⟩, .int .i64 tn, .int .i64 td, .bool ti, .bool tid, .slice koa K kcap] 74))
      clear hB hO hbx f0 f1 f2 f3 f4 f5 f6
      generalize wr.heap.size = g8 at *
      generalize World.alloc wr _ = wv at *
      have cv0 : wv.cell? ⟨g8, 0, none⟩ = some (.int .i64 tk) := (h8).cell 0
      have fcv0 := (h8).frozen 0
      have cv1 : wv.cell? ⟨g8, 1, none⟩ = some (.string ⟨tt.toArray⟩) := (h8).cell 1
      have fcv1 := (h8).frozen 1
      have cv2 : wv.cell? ⟨g8, 2, none⟩ = some (.int .i64 tn) := (h8).cell 2
      have fcv2 := (h8).frozen 2
      have cv3 : wv.cell? ⟨g8, 3, none⟩ = some (.int .i64 td) := (h8).cell 3
      have fcv3 := (h8).frozen 3
      have cv4 : wv.cell? ⟨g8, 4, none⟩ = some (.bool ti) := (h8).cell 4
      have fcv4 := (h8).frozen 4
      have cv5 : wv.cell? ⟨g8, 5, none⟩ = some (.bool tid) := (h8).cell 5
      have fcv5 := (h8).frozen 5
      have cv6 : wv.cell? ⟨g8, 6, none⟩ = some (.slice koa K kcap) := (h8).cell 6
      have fcv6 := (h8).frozen 6
      have lcv := (h8).lt
      clear h8
      by_cases h13 : tk = 13
      · subst h13
        go_wp2_with fail
        go_roundg (N - (i + 1))
        case measure => omega
        case rel =>
          refine ⟨i + 1, D, _, by go_num, rfl, HB2, HO2, Lib.hid ?_, hE, by omega, hi, Nat.le_refl _⟩
          rw [HXL.out.2.2, solid_append, hD.out, Vl.c_mk]
          show _ = _ ++ []
          rw [List.append_nil]
      · have gk : (tk != 13) = true := by rw [bne_iff_ne]; exact h13
        have hbs := HB2.out.size
        go_wp2_with (at_builtin; refine wpList_add elVal rfl _ _ rfl rfl (HO2.out.alloc _) (by simp; omega) (Blk.new wv _ _) 1 rfl rfl (by simp [Value.oneCell']) (by omega) (by omega) ?_; intro gg cap3 w3 ho3 hg3 hat hvb; have H3 := Lib.hid (And.intro ho3 (And.intro hg3 hvb)); clear ho3 hg3 hat hvb)
        go_roundg (N - (i + 1))
        case measure => omega
        case rel =>
          obtain ⟨ho3, hg3, hvb⟩ := H3.out
          refine ⟨i + 1, D ++ [.mk ⟨tk, tt, (tn, td), ti, tid⟩ koa kb ko kcap kids], _, by go_num, rfl, Lib.hid (below_far (HB2.out.alloc hbs _) hg3 fun k hk => (hvb k hk).1), Lib.hid ?_, Lib.hid ?_, Lib.hid ?_, by simp; omega, hi, Nat.le_refl _⟩
          · rw [List.length_append, List.flatMap_append, List.flatMap_singleton, HXL.out.2.1]
            exact ho3
          · rw [HXL.out.2.2, solid_append, List.map_append, hD.out, List.map_cons, List.map_nil]
            congr 1
            unfold solidV
            rw [List.filter_cons_of_pos]
            · rfl
            · rw [Vl.c_mk]
              simpa [spV] using h13
          · intro y hy
            rcases List.mem_append.1 hy with hy | hy
            · exact hE.out y hy
            · obtain rfl := List.mem_singleton.1 hy
              exact HXL.out.1
    · obtain rfl : i = N := by omega
      have gi : decide ((i : Int) < (i : Int)) = false := by simp
      have gin : decide (i < i) = false := by simp
      obtain ⟨voa, vcap, vg, rfl, hsl, hpos⟩ := sl_of_own hO.out
      have hDL : D.map Vl.c = solidV L := by
        rw [hD.out, List.take_of_length_le]
        rw [← HS.out.2.2, List.length_map, HS.out.2.1]
        exact Nat.le_refl _
      have hvs := HS.out.1.below hB.out
      have hDv : VsIn wr h voa vcap vg 0 D := ⟨by omega, hsl, fun j y hy => by
        obtain ⟨j2, hj2, e⟩ := List.getElem_of_mem (hE.out y (List.mem_of_getElem? hy))
        exact hvs.each j2 y (by rw [List.getElem?_eq_getElem hj2, e])⟩
      have HF := Lib.hid (And.intro hDL (And.intro hDv hE.out))
      clear hDL hDv hvs hsl hpos hO hD hE
      obtain ⟨DL, hDLn⟩ : ∃ DL, D.length = DL := ⟨_, rfl⟩
      have HDL := Lib.hid hDLn
      simp only [hDLn]
      clear hDLn
      go_wp2_with fail
      go_ret
      exact ⟨⟨D, voa, vcap, vg, by rw [HDL.out]; rfl, HF.out.1, HF.out.2.1, HF.out.2.2⟩, hB.out⟩

end Go.Proofs.Ytgjhaanpkfheeaa

namespace Go.Proofs.Ytgjhaanpkfheeaa
set_option linter.unusedVariables false
set_option linter.unusedSimpArgs false
open Go.RowKit

theorem like_bare (L : Int × Int × List UInt8) : likeB (bareL L) (bareL L) true = true := by simp [likeB]
theorem leaf_same (a b2 : Int) (s : List UInt8) (w : World) : Calls Try.prog 95 #[.agg #[.int .i64 a, .int .i64 b2, .string ⟨s.toArray⟩, .int .i64 0, .int .i64 0, .int .i64 0, .int .i64 0, .int .i64 0, .slice none 0 0, .string ⟨#[]⟩, .string ⟨#[]⟩, .bool false], .agg #[.int .i64 a, .int .i64 b2, .string ⟨s.toArray⟩, .int .i64 0, .int .i64 0, .int .i64 0, .int .i64 0, .int .i64 0, .slice none 0 0, .string ⟨#[]⟩, .string ⟨#[]⟩, .bool false]] w fun x w' => x = .returned (.bool true) ∧ Below w.heap.size w w' := by
  have h := rlike_any (bareL (a, b2, s)) (bareL (a, b2, s)) true w fun wx _ => rsame_zero 1 zeroX wx (ExIn.leaf (A := fun _ => False) (k := 0) (n := 0) (d := 0) (u := 0) (i64_small _ (by decide)) (by unfold Is64; decide) (i64_small _ (by decide))).here
  rw [like_bare] at h
  exact h

theorem bare_cells (x : Cd) (h : x.bare) : ∃ (k : Int) (oa : Option Addr) (n cap : Nat) (L : Int × Int × List UInt8), ccells x = qcells k (.slice oa n cap) L := by
  obtain ⟨k, oa, b, o, cap, kids, lf⟩ := x
  rw [Cd.bare_mk] at h
  refine ⟨k, oa, kids.length, cap, lf.q, ?_⟩
  rw [Lf.of_bare h.1]
  rfl

set_option maxRecDepth 20000 in
set_option maxHeartbeats 8000000 in
theorem qsame_any : ∀ (h : Nat) (x y : Cd) (w : World), CdIn w h x → CdIn w h y → x.q = y.q → x.bare → y.bare →
    Calls Try.prog 59 #[cv x, cv y] w fun e w' => e = .returned (.bool true) ∧ Below w.heap.size w w' := by
  intro h
  induction h with
  | zero => exact fun _ _ _ h => h.elim
  | succ h ih =>
    intro x y w hx hy hxy hbx hby
    obtain ⟨k, oa, b, o, cap, kids, lf⟩ := x
    obtain ⟨k', oa', b', o', cap', kids', lf'⟩ := y
    rw [Cd.q_mk, Cd.q_mk] at hxy
    injection hxy with e1 e2 e3
    subst e1
    rw [Cd.bare_mk] at hbx hby
    have el := Lf.of_bare hbx.1
    have el' := Lf.of_bare hby.1
    rw [← e3] at el'
    obtain ⟨⟨a, b2, s⟩, hL⟩ : ∃ L, lf.q = L := ⟨_, rfl⟩
    rw [hL] at el el'
    obtain ⟨n, hn⟩ : ∃ n, kids.length = n := ⟨_, rfl⟩
    have hn' : kids'.length = n := by
      have := congrArg List.length e2
      simpa [hn] using this.symm
    obtain ⟨_, _, h4, h5, _, h7, h8⟩ := hx
    obtain ⟨_, _, h4', h5', _, h7', h8'⟩ := hy
    rw [hn] at h4 h7
    rw [hn'] at h4' h7'
    have hcv : cv (.mk k oa b o cap kids lf) = .agg #[.int .i64 k, .slice oa n cap, .int .i64 a, .int .i64 b2, .string ⟨s.toArray⟩, .int .i64 0, .int .i64 0, .int .i64 0, .int .i64 0, .int .i64 0, .slice none 0 0, .string ⟨#[]⟩, .string ⟨#[]⟩, .bool false] := by
      rw [el, ← hn]
      rfl
    have hcv' : cv (.mk k oa' b' o' cap' kids' lf') = .agg #[.int .i64 k, .slice oa' n cap', .int .i64 a, .int .i64 b2, .string ⟨s.toArray⟩, .int .i64 0, .int .i64 0, .int .i64 0, .int .i64 0, .int .i64 0, .slice none 0 0, .string ⟨#[]⟩, .string ⟨#[]⟩, .bool false] := by
      rw [el', ← hn']
      rfl
    rw [hcv, hcv']
    have hsm : n ≤ 9223372036854775807 := Nat.le_trans (Nat.le_trans h4 h5) (by decide)
    have HIH := Lib.hid (And.intro ih (And.intro e2 (And.intro hbx.2 hby.2)))
    have HN := Lib.hid (And.intro hn hn')
    have HLS := Lib.hid (leaf_same a b2 s)
    have HK := Lib.hid (And.intro (And.intro h7 h8) (And.intro h7' h8'))
    clear ih e2 e3 hbx hby el el' hL hn hn' hcv hcv' h7 h8 h7' h8'
    have hb := below_box w (.cells #[.int .i64 k, .slice oa n cap, .int .i64 a, .int .i64 b2, .string ⟨s.toArray⟩, .int .i64 0, .int .i64 0, .int .i64 0, .int .i64 0, .int .i64 0, .slice none 0 0, .string ⟨#[]⟩, .string ⟨#[]⟩, .bool false] 49)
    have h1 := (Blk.new w 49 #[.int .i64 k, .slice oa n cap, .int .i64 a, .int .i64 b2, .string ⟨s.toArray⟩, .int .i64 0, .int .i64 0, .int .i64 0, .int .i64 0, .int .i64 0, .slice none 0 0, .string ⟨#[]⟩, .string ⟨#[]⟩, .bool false]).old (.cells #[.int .i64 k, .slice oa' n cap', .int .i64 a, .int .i64 b2, .string ⟨s.toArray⟩, .int .i64 0, .int .i64 0, .int .i64 0, .int .i64 0, .int .i64 0, .slice none 0 0, .string ⟨#[]⟩, .string ⟨#[]⟩, .bool false] 49)
    have h2 := Blk.new (w.alloc (.cells #[.int .i64 k, .slice oa n cap, .int .i64 a, .int .i64 b2, .string ⟨s.toArray⟩, .int .i64 0, .int .i64 0, .int .i64 0, .int .i64 0, .int .i64 0, .slice none 0 0, .string ⟨#[]⟩, .string ⟨#[]⟩, .bool false] 49)) 49 #[.int .i64 k, .slice oa' n cap', .int .i64 a, .int .i64 b2, .string ⟨s.toArray⟩, .int .i64 0, .int .i64 0, .int .i64 0, .int .i64 0, .int .i64 0, .slice none 0 0, .string ⟨#[]⟩, .string ⟨#[]⟩, .bool false]
    have hb2 := hb.alloc (by simp) (.cells #[.int .i64 k, .slice oa' n cap', .int .i64 a, .int .i64 b2, .string ⟨s.toArray⟩, .int .i64 0, .int .i64 0, .int .i64 0, .int .i64 0, .int .i64 0, .slice none 0 0, .string ⟨#[]⟩, .string ⟨#[]⟩, .bool false] 49)
    have hs2 : (w.alloc (.cells #[.int .i64 k, .slice oa n cap, .int .i64 a, .int .i64 b2, .string ⟨s.toArray⟩, .int .i64 0, .int .i64 0, .int .i64 0, .int .i64 0, .int .i64 0, .slice none 0 0, .string ⟨#[]⟩, .string ⟨#[]⟩, .bool false] 49)).heap.size = w.heap.size + 1 := by simp
    rw [hs2] at h2
    have H := Lib.hid (And.intro h1 (And.intro h2 hb2))
    clear h1 h2 hb hb2 hs2
    go_enter Try.func59, Try.ntmps59
    go_upto_region 1 with fail
    obtain ⟨g, hg⟩ : ∃ g, w.heap.size = g := ⟨_, rfl⟩
    rw [hg] at H
    simp only [hg]
    have HG := Lib.hid hg
    clear hg
    generalize World.alloc (World.alloc w _) _ = wa at *
    have h1 := H.out.1
    have h2 := H.out.2.1
    have ca0 : wa.cell? ⟨g, 0, none⟩ = some (.int .i64 k) := (h1).cell 0
    have fca0 := (h1).frozen 0
    have ca1 : wa.cell? ⟨g, 1, none⟩ = some (.slice oa n cap) := (h1).cell 1
    have fca1 := (h1).frozen 1
    have ca2 : wa.cell? ⟨g, 2, none⟩ = some (.int .i64 a) := (h1).cell 2
    have fca2 := (h1).frozen 2
    have ca3 : wa.cell? ⟨g, 3, none⟩ = some (.int .i64 b2) := (h1).cell 3
    have fca3 := (h1).frozen 3
    have ca4 : wa.cell? ⟨g, 4, none⟩ = some (.string ⟨s.toArray⟩) := (h1).cell 4
    have fca4 := (h1).frozen 4
    have ca5 : wa.cell? ⟨g, 5, none⟩ = some (.int .i64 0) := (h1).cell 5
    have fca5 := (h1).frozen 5
    have ca6 : wa.cell? ⟨g, 6, none⟩ = some (.int .i64 0) := (h1).cell 6
    have fca6 := (h1).frozen 6
    have ca7 : wa.cell? ⟨g, 7, none⟩ = some (.int .i64 0) := (h1).cell 7
    have fca7 := (h1).frozen 7
    have ca8 : wa.cell? ⟨g, 8, none⟩ = some (.int .i64 0) := (h1).cell 8
    have fca8 := (h1).frozen 8
    have ca9 : wa.cell? ⟨g, 9, none⟩ = some (.int .i64 0) := (h1).cell 9
    have fca9 := (h1).frozen 9
    have ca10 : wa.cell? ⟨g, 10, none⟩ = some (.slice none 0 0) := (h1).cell 10
    have fca10 := (h1).frozen 10
    have ca11 : wa.cell? ⟨g, 11, none⟩ = some (.string ⟨#[]⟩) := (h1).cell 11
    have fca11 := (h1).frozen 11
    have ca12 : wa.cell? ⟨g, 12, none⟩ = some (.string ⟨#[]⟩) := (h1).cell 12
    have fca12 := (h1).frozen 12
    have ca13 : wa.cell? ⟨g, 13, none⟩ = some (.bool false) := (h1).cell 13
    have fca13 := (h1).frozen 13
    have lca := (h1).lt
    have cb0 : wa.cell? ⟨g + 1, 0, none⟩ = some (.int .i64 k) := (h2).cell 0
    have fcb0 := (h2).frozen 0
    have cb1 : wa.cell? ⟨g + 1, 1, none⟩ = some (.slice oa' n cap') := (h2).cell 1
    have fcb1 := (h2).frozen 1
    have cb2 : wa.cell? ⟨g + 1, 2, none⟩ = some (.int .i64 a) := (h2).cell 2
    have fcb2 := (h2).frozen 2
    have cb3 : wa.cell? ⟨g + 1, 3, none⟩ = some (.int .i64 b2) := (h2).cell 3
    have fcb3 := (h2).frozen 3
    have cb4 : wa.cell? ⟨g + 1, 4, none⟩ = some (.string ⟨s.toArray⟩) := (h2).cell 4
    have fcb4 := (h2).frozen 4
    have cb5 : wa.cell? ⟨g + 1, 5, none⟩ = some (.int .i64 0) := (h2).cell 5
    have fcb5 := (h2).frozen 5
    have cb6 : wa.cell? ⟨g + 1, 6, none⟩ = some (.int .i64 0) := (h2).cell 6
    have fcb6 := (h2).frozen 6
    have cb7 : wa.cell? ⟨g + 1, 7, none⟩ = some (.int .i64 0) := (h2).cell 7
    have fcb7 := (h2).frozen 7
    have cb8 : wa.cell? ⟨g + 1, 8, none⟩ = some (.int .i64 0) := (h2).cell 8
    have fcb8 := (h2).frozen 8
    have cb9 : wa.cell? ⟨g + 1, 9, none⟩ = some (.int .i64 0) := (h2).cell 9
    have fcb9 := (h2).frozen 9
    have cb10 : wa.cell? ⟨g + 1, 10, none⟩ = some (.slice none 0 0) := (h2).cell 10
    have fcb10 := (h2).frozen 10
    have cb11 : wa.cell? ⟨g + 1, 11, none⟩ = some (.string ⟨#[]⟩) := (h2).cell 11
    have fcb11 := (h2).frozen 11
    have cb12 : wa.cell? ⟨g + 1, 12, none⟩ = some (.string ⟨#[]⟩) := (h2).cell 12
    have fcb12 := (h2).frozen 12
    have cb13 : wa.cell? ⟨g + 1, 13, none⟩ = some (.bool false) := (h2).cell 13
    have fcb13 := (h2).frozen 13
    have lcb := (h2).lt
    clear h1 h2
    go_wp2_with fail
    ((with_reducible refine (HLS.out _).mono ?_); rintro e w' ⟨rfl, hbw⟩)
    obtain ⟨m0, rfl⟩ := grow_mk hbw
    clear hbw
    have HB := Lib.hid (And.intro (H.out.1.grow m0) (And.intro (H.out.2.1.grow m0) (H.out.2.2.trans ((grow_below m0).mono (Nat.le_of_lt lca)))))
    have hbw := H.out.2.2.trans ((grow_below m0).mono (Nat.le_of_lt lca))
    clear H ca0 fca0 cb0 fcb0 ca1 fca1 cb1 fcb1 ca2 fca2 cb2 fcb2 ca3 fca3 cb3 fcb3 ca4 fca4 cb4 fcb4 ca5 fca5 cb5 fcb5 ca6 fca6 cb6 fcb6 ca7 fca7 cb7 fcb7 ca8 fca8 cb8 fcb8 ca9 fca9 cb9 fcb9 ca10 fca10 cb10 fcb10 ca11 fca11 cb11 fcb11 ca12 fca12 cb12 fcb12 ca13 fca13 cb13 fcb13 lca lcb
    generalize grow wa m0 = wb at *
    have h1 := HB.out.1
    have h2 := HB.out.2.1
    have ca0 : wb.cell? ⟨g, 0, none⟩ = some (.int .i64 k) := (h1).cell 0
    have fca0 := (h1).frozen 0
    have ca1 : wb.cell? ⟨g, 1, none⟩ = some (.slice oa n cap) := (h1).cell 1
    have fca1 := (h1).frozen 1
    have ca2 : wb.cell? ⟨g, 2, none⟩ = some (.int .i64 a) := (h1).cell 2
    have fca2 := (h1).frozen 2
    have ca3 : wb.cell? ⟨g, 3, none⟩ = some (.int .i64 b2) := (h1).cell 3
    have fca3 := (h1).frozen 3
    have ca4 : wb.cell? ⟨g, 4, none⟩ = some (.string ⟨s.toArray⟩) := (h1).cell 4
    have fca4 := (h1).frozen 4
    have ca5 : wb.cell? ⟨g, 5, none⟩ = some (.int .i64 0) := (h1).cell 5
    have fca5 := (h1).frozen 5
    have ca6 : wb.cell? ⟨g, 6, none⟩ = some (.int .i64 0) := (h1).cell 6
    have fca6 := (h1).frozen 6
    have ca7 : wb.cell? ⟨g, 7, none⟩ = some (.int .i64 0) := (h1).cell 7
    have fca7 := (h1).frozen 7
    have ca8 : wb.cell? ⟨g, 8, none⟩ = some (.int .i64 0) := (h1).cell 8
    have fca8 := (h1).frozen 8
    have ca9 : wb.cell? ⟨g, 9, none⟩ = some (.int .i64 0) := (h1).cell 9
    have fca9 := (h1).frozen 9
    have ca10 : wb.cell? ⟨g, 10, none⟩ = some (.slice none 0 0) := (h1).cell 10
    have fca10 := (h1).frozen 10
    have ca11 : wb.cell? ⟨g, 11, none⟩ = some (.string ⟨#[]⟩) := (h1).cell 11
    have fca11 := (h1).frozen 11
    have ca12 : wb.cell? ⟨g, 12, none⟩ = some (.string ⟨#[]⟩) := (h1).cell 12
    have fca12 := (h1).frozen 12
    have ca13 : wb.cell? ⟨g, 13, none⟩ = some (.bool false) := (h1).cell 13
    have fca13 := (h1).frozen 13
    have lca := (h1).lt
    have cb0 : wb.cell? ⟨g + 1, 0, none⟩ = some (.int .i64 k) := (h2).cell 0
    have fcb0 := (h2).frozen 0
    have cb1 : wb.cell? ⟨g + 1, 1, none⟩ = some (.slice oa' n cap') := (h2).cell 1
    have fcb1 := (h2).frozen 1
    have cb2 : wb.cell? ⟨g + 1, 2, none⟩ = some (.int .i64 a) := (h2).cell 2
    have fcb2 := (h2).frozen 2
    have cb3 : wb.cell? ⟨g + 1, 3, none⟩ = some (.int .i64 b2) := (h2).cell 3
    have fcb3 := (h2).frozen 3
    have cb4 : wb.cell? ⟨g + 1, 4, none⟩ = some (.string ⟨s.toArray⟩) := (h2).cell 4
    have fcb4 := (h2).frozen 4
    have cb5 : wb.cell? ⟨g + 1, 5, none⟩ = some (.int .i64 0) := (h2).cell 5
    have fcb5 := (h2).frozen 5
    have cb6 : wb.cell? ⟨g + 1, 6, none⟩ = some (.int .i64 0) := (h2).cell 6
    have fcb6 := (h2).frozen 6
    have cb7 : wb.cell? ⟨g + 1, 7, none⟩ = some (.int .i64 0) := (h2).cell 7
    have fcb7 := (h2).frozen 7
    have cb8 : wb.cell? ⟨g + 1, 8, none⟩ = some (.int .i64 0) := (h2).cell 8
    have fcb8 := (h2).frozen 8
    have cb9 : wb.cell? ⟨g + 1, 9, none⟩ = some (.int .i64 0) := (h2).cell 9
    have fcb9 := (h2).frozen 9
    have cb10 : wb.cell? ⟨g + 1, 10, none⟩ = some (.slice none 0 0) := (h2).cell 10
    have fcb10 := (h2).frozen 10
    have cb11 : wb.cell? ⟨g + 1, 11, none⟩ = some (.string ⟨#[]⟩) := (h2).cell 11
    have fcb11 := (h2).frozen 11
    have cb12 : wb.cell? ⟨g + 1, 12, none⟩ = some (.string ⟨#[]⟩) := (h2).cell 12
    have fcb12 := (h2).frozen 12
    have cb13 : wb.cell? ⟨g + 1, 13, none⟩ = some (.bool false) := (h2).cell 13
    have fcb13 := (h2).frozen 13
    have lcb := (h2).lt
    clear h1 h2
    go_wp2_with fail
    go_loopg [31] n (fun kk sv wr => ∃ (i : Nat), sv = .int .i64 i ∧ Hid (Blk wr g 49 #[.int .i64 k, .slice oa n cap, .int .i64 a, .int .i64 b2, .string ⟨s.toArray⟩, .int .i64 0, .int .i64 0, .int .i64 0, .int .i64 0, .int .i64 0, .slice none 0 0, .string ⟨#[]⟩, .string ⟨#[]⟩, .bool false]) ∧ Hid (Blk wr (g + 1) 49 #[.int .i64 k, .slice oa' n cap', .int .i64 a, .int .i64 b2, .string ⟨s.toArray⟩, .int .i64 0, .int .i64 0, .int .i64 0, .int .i64 0, .int .i64 0, .slice none 0 0, .string ⟨#[]⟩, .string ⟨#[]⟩, .bool false]) ∧ Hid (Below g w wr) ∧ i ≤ n ∧ n - i ≤ kk)
    case atStart => exact ⟨0, rfl, Lib.hid HB.out.1, Lib.hid HB.out.2.1, Lib.hid HB.out.2.2, Nat.zero_le _, Nat.le_refl _⟩
    case round =>
      clear ca0 fca0 cb0 fcb0 ca1 fca1 cb1 fcb1 ca2 fca2 cb2 fcb2 ca3 fca3 cb3 fcb3 ca4 fca4 cb4 fcb4 ca5 fca5 cb5 fcb5 ca6 fca6 cb6 fcb6 ca7 fca7 cb7 fcb7 ca8 fca8 cb8 fcb8 ca9 fca9 cb9 fcb9 ca10 fca10 cb10 fcb10 ca11 fca11 cb11 fcb11 ca12 fca12 cb12 fcb12 ca13 fca13 cb13 fcb13 lca lcb HB hbw
      obtain ⟨i, rfl, hA, hBk, hbel, hle, hk2⟩ := hrel
      by_cases hi : i < n
      · have gi : decide ((i : Int) < (n : Int)) = true := by simpa using hi
        have gin : decide (i < n) = true := by simpa using hi
        have hil : i < kids.length := by rw [HN.out.1]; exact hi
        have hil' : i < kids'.length := by rw [HN.out.2]; exact hi
        have hr : kids[i]? = some kids[i] := List.getElem?_eq_getElem hil
        have hr' : kids'[i]? = some kids'[i] := List.getElem?_eq_getElem hil'
        have hmx := List.getElem_mem hil
        have hmy := List.getElem_mem hil'
        obtain ⟨⟨h7, h8⟩, h7', h8'⟩ := HK.out
        have hx := h8 i _ hr
        have hx' := h8' i _ hr'
        have hqq : kids[i].q = kids'[i].q := by
          have e := congrArg (·[i]?) HIH.out.2.1
          simp only [List.getElem?_map, hr, hr'] at e
          exact Option.some.inj e
        obtain ⟨rfl, hbl⟩ := h7 (by omega)
        obtain ⟨rfl, hbl'⟩ := h7' (by omega)
        have hbx := HIH.out.2.2.1 _ hmx
        have hby := HIH.out.2.2.2 _ hmy
        have hbw := Lib.hid (show Below w.heap.size w wr by rw [HG.out]; exact hbel.out)
        have hX := fun wx (hb : Below w.heap.size w wx) => HIH.out.1 kids[i] kids'[i] wx (hx.2.below (w' := wx) _ hb) (hx'.2.below (w' := wx) _ hb) hqq hbx hby
        clear hqq hmx hmy hr hr'
        generalize kids[i] = x at *
        generalize kids'[i] = y at *
        obtain ⟨xk, xo, xn, xc, ⟨xa, xb, xs⟩, hxc⟩ := bare_cells x hbx
        obtain ⟨yk, yo, yn, yc, ⟨ya, yb, ys⟩, hyc⟩ := bare_cells y hby
        have hvx : cv x = .agg #[.int .i64 xk, .slice xo xn xc, .int .i64 xa, .int .i64 xb, .string ⟨xs.toArray⟩, .int .i64 0, .int .i64 0, .int .i64 0, .int .i64 0, .int .i64 0, .slice none 0 0, .string ⟨#[]⟩, .string ⟨#[]⟩, .bool false] := by
          unfold cv
          rw [hxc]
          rfl
        have hvy : cv y = .agg #[.int .i64 yk, .slice yo yn yc, .int .i64 ya, .int .i64 yb, .string ⟨ys.toArray⟩, .int .i64 0, .int .i64 0, .int .i64 0, .int .i64 0, .int .i64 0, .slice none 0 0, .string ⟨#[]⟩, .string ⟨#[]⟩, .bool false] := by
          unfold cv
          rw [hyc]
          rfl
        rw [hvx, hvy] at hX
        have HX := Lib.hid hX
        have f0 : wr.cell? ⟨b, o + i * 14, none⟩ = some (.int .i64 xk) := (hbw.out.cell hbl).trans (hx.1 0 _ (by rw [hxc]; rfl))
        have f1 : wr.cell? ⟨b, o + i * 14 + 1, none⟩ = some (.slice xo xn xc) := (hbw.out.cell hbl).trans (hx.1 1 _ (by rw [hxc]; rfl))
        have f2 : wr.cell? ⟨b, o + i * 14 + 2, none⟩ = some (.int .i64 xa) := (hbw.out.cell hbl).trans (hx.1 2 _ (by rw [hxc]; rfl))
        have f3 : wr.cell? ⟨b, o + i * 14 + 3, none⟩ = some (.int .i64 xb) := (hbw.out.cell hbl).trans (hx.1 3 _ (by rw [hxc]; rfl))
        have f4 : wr.cell? ⟨b, o + i * 14 + 4, none⟩ = some (.string ⟨xs.toArray⟩) := (hbw.out.cell hbl).trans (hx.1 4 _ (by rw [hxc]; rfl))
        have f5 : wr.cell? ⟨b, o + i * 14 + 5, none⟩ = some (.int .i64 0) := (hbw.out.cell hbl).trans (hx.1 5 _ (by rw [hxc]; rfl))
        have f6 : wr.cell? ⟨b, o + i * 14 + 6, none⟩ = some (.int .i64 0) := (hbw.out.cell hbl).trans (hx.1 6 _ (by rw [hxc]; rfl))
        have f7 : wr.cell? ⟨b, o + i * 14 + 7, none⟩ = some (.int .i64 0) := (hbw.out.cell hbl).trans (hx.1 7 _ (by rw [hxc]; rfl))
        have f8 : wr.cell? ⟨b, o + i * 14 + 8, none⟩ = some (.int .i64 0) := (hbw.out.cell hbl).trans (hx.1 8 _ (by rw [hxc]; rfl))
        have f9 : wr.cell? ⟨b, o + i * 14 + 9, none⟩ = some (.int .i64 0) := (hbw.out.cell hbl).trans (hx.1 9 _ (by rw [hxc]; rfl))
        have f10 : wr.cell? ⟨b, o + i * 14 + 10, none⟩ = some (.slice none 0 0) := (hbw.out.cell hbl).trans (hx.1 10 _ (by rw [hxc]; rfl))
        have f11 : wr.cell? ⟨b, o + i * 14 + 11, none⟩ = some (.string ⟨#[]⟩) := (hbw.out.cell hbl).trans (hx.1 11 _ (by rw [hxc]; rfl))
        have f12 : wr.cell? ⟨b, o + i * 14 + 12, none⟩ = some (.string ⟨#[]⟩) := (hbw.out.cell hbl).trans (hx.1 12 _ (by rw [hxc]; rfl))
        have f13 : wr.cell? ⟨b, o + i * 14 + 13, none⟩ = some (.bool false) := (hbw.out.cell hbl).trans (hx.1 13 _ (by rw [hxc]; rfl))
        have e0 : wr.cell? ⟨b', o' + i * 14, none⟩ = some (.int .i64 yk) := (hbw.out.cell hbl').trans (hx'.1 0 _ (by rw [hyc]; rfl))
        have e1 : wr.cell? ⟨b', o' + i * 14 + 1, none⟩ = some (.slice yo yn yc) := (hbw.out.cell hbl').trans (hx'.1 1 _ (by rw [hyc]; rfl))
        have e2 : wr.cell? ⟨b', o' + i * 14 + 2, none⟩ = some (.int .i64 ya) := (hbw.out.cell hbl').trans (hx'.1 2 _ (by rw [hyc]; rfl))
        have e3 : wr.cell? ⟨b', o' + i * 14 + 3, none⟩ = some (.int .i64 yb) := (hbw.out.cell hbl').trans (hx'.1 3 _ (by rw [hyc]; rfl))
        have e4 : wr.cell? ⟨b', o' + i * 14 + 4, none⟩ = some (.string ⟨ys.toArray⟩) := (hbw.out.cell hbl').trans (hx'.1 4 _ (by rw [hyc]; rfl))
        have e5 : wr.cell? ⟨b', o' + i * 14 + 5, none⟩ = some (.int .i64 0) := (hbw.out.cell hbl').trans (hx'.1 5 _ (by rw [hyc]; rfl))
        have e6 : wr.cell? ⟨b', o' + i * 14 + 6, none⟩ = some (.int .i64 0) := (hbw.out.cell hbl').trans (hx'.1 6 _ (by rw [hyc]; rfl))
        have e7 : wr.cell? ⟨b', o' + i * 14 + 7, none⟩ = some (.int .i64 0) := (hbw.out.cell hbl').trans (hx'.1 7 _ (by rw [hyc]; rfl))
        have e8 : wr.cell? ⟨b', o' + i * 14 + 8, none⟩ = some (.int .i64 0) := (hbw.out.cell hbl').trans (hx'.1 8 _ (by rw [hyc]; rfl))
        have e9 : wr.cell? ⟨b', o' + i * 14 + 9, none⟩ = some (.int .i64 0) := (hbw.out.cell hbl').trans (hx'.1 9 _ (by rw [hyc]; rfl))
        have e10 : wr.cell? ⟨b', o' + i * 14 + 10, none⟩ = some (.slice none 0 0) := (hbw.out.cell hbl').trans (hx'.1 10 _ (by rw [hyc]; rfl))
        have e11 : wr.cell? ⟨b', o' + i * 14 + 11, none⟩ = some (.string ⟨#[]⟩) := (hbw.out.cell hbl').trans (hx'.1 11 _ (by rw [hyc]; rfl))
        have e12 : wr.cell? ⟨b', o' + i * 14 + 12, none⟩ = some (.string ⟨#[]⟩) := (hbw.out.cell hbl').trans (hx'.1 12 _ (by rw [hyc]; rfl))
        have e13 : wr.cell? ⟨b', o' + i * 14 + 13, none⟩ = some (.bool false) := (hbw.out.cell hbl').trans (hx'.1 13 _ (by rw [hyc]; rfl))
        have lb : b < wr.heap.size := Nat.lt_of_lt_of_le hbl hbw.out.size
        have lb' : b' < wr.heap.size := Nat.lt_of_lt_of_le hbl' hbw.out.size
        have h1 := hA.out
        have h2 := hBk.out
        have ca0 : wr.cell? ⟨g, 0, none⟩ = some (.int .i64 k) := (h1).cell 0
        have fca0 := (h1).frozen 0
        have ca1 : wr.cell? ⟨g, 1, none⟩ = some (.slice (some ⟨b, o, none⟩) n cap) := (h1).cell 1
        have fca1 := (h1).frozen 1
        have ca2 : wr.cell? ⟨g, 2, none⟩ = some (.int .i64 a) := (h1).cell 2
        have fca2 := (h1).frozen 2
        have ca3 : wr.cell? ⟨g, 3, none⟩ = some (.int .i64 b2) := (h1).cell 3
        have fca3 := (h1).frozen 3
        have ca4 : wr.cell? ⟨g, 4, none⟩ = some (.string ⟨s.toArray⟩) := (h1).cell 4
        have fca4 := (h1).frozen 4
        have ca5 : wr.cell? ⟨g, 5, none⟩ = some (.int .i64 0) := (h1).cell 5
        have fca5 := (h1).frozen 5
        have ca6 : wr.cell? ⟨g, 6, none⟩ = some (.int .i64 0) := (h1).cell 6
        have fca6 := (h1).frozen 6
        have ca7 : wr.cell? ⟨g, 7, none⟩ = some (.int .i64 0) := (h1).cell 7
        have fca7 := (h1).frozen 7
        have ca8 : wr.cell? ⟨g, 8, none⟩ = some (.int .i64 0) := (h1).cell 8
        have fca8 := (h1).frozen 8
        have ca9 : wr.cell? ⟨g, 9, none⟩ = some (.int .i64 0) := (h1).cell 9
        have fca9 := (h1).frozen 9
        have ca10 : wr.cell? ⟨g, 10, none⟩ = some (.slice none 0 0) := (h1).cell 10
        have fca10 := (h1).frozen 10
        have ca11 : wr.cell? ⟨g, 11, none⟩ = some (.string ⟨#[]⟩) := (h1).cell 11
        have fca11 := (h1).frozen 11
        have ca12 : wr.cell? ⟨g, 12, none⟩ = some (.string ⟨#[]⟩) := (h1).cell 12
        have fca12 := (h1).frozen 12
        have ca13 : wr.cell? ⟨g, 13, none⟩ = some (.bool false) := (h1).cell 13
        have fca13 := (h1).frozen 13
        have lca := (h1).lt
        have cb0 : wr.cell? ⟨g + 1, 0, none⟩ = some (.int .i64 k) := (h2).cell 0
        have fcb0 := (h2).frozen 0
        have cb1 : wr.cell? ⟨g + 1, 1, none⟩ = some (.slice (some ⟨b', o', none⟩) n cap') := (h2).cell 1
        have fcb1 := (h2).frozen 1
        have cb2 : wr.cell? ⟨g + 1, 2, none⟩ = some (.int .i64 a) := (h2).cell 2
        have fcb2 := (h2).frozen 2
        have cb3 : wr.cell? ⟨g + 1, 3, none⟩ = some (.int .i64 b2) := (h2).cell 3
        have fcb3 := (h2).frozen 3
        have cb4 : wr.cell? ⟨g + 1, 4, none⟩ = some (.string ⟨s.toArray⟩) := (h2).cell 4
        have fcb4 := (h2).frozen 4
        have cb5 : wr.cell? ⟨g + 1, 5, none⟩ = some (.int .i64 0) := (h2).cell 5
        have fcb5 := (h2).frozen 5
        have cb6 : wr.cell? ⟨g + 1, 6, none⟩ = some (.int .i64 0) := (h2).cell 6
        have fcb6 := (h2).frozen 6
        have cb7 : wr.cell? ⟨g + 1, 7, none⟩ = some (.int .i64 0) := (h2).cell 7
        have fcb7 := (h2).frozen 7
        have cb8 : wr.cell? ⟨g + 1, 8, none⟩ = some (.int .i64 0) := (h2).cell 8
        have fcb8 := (h2).frozen 8
        have cb9 : wr.cell? ⟨g + 1, 9, none⟩ = some (.int .i64 0) := (h2).cell 9
        have fcb9 := (h2).frozen 9
        have cb10 : wr.cell? ⟨g + 1, 10, none⟩ = some (.slice none 0 0) := (h2).cell 10
        have fcb10 := (h2).frozen 10
        have cb11 : wr.cell? ⟨g + 1, 11, none⟩ = some (.string ⟨#[]⟩) := (h2).cell 11
        have fcb11 := (h2).frozen 11
        have cb12 : wr.cell? ⟨g + 1, 12, none⟩ = some (.string ⟨#[]⟩) := (h2).cell 12
        have fcb12 := (h2).frozen 12
        have cb13 : wr.cell? ⟨g + 1, 13, none⟩ = some (.bool false) := (h2).cell 13
        have fcb13 := (h2).frozen 13
        have lcb := (h2).lt
        clear hx hx' h7 h8 h7' h8' hvx hvy hX hxc hyc hbx hby h1 h2
        go_wp2_with fail
        refine wp_region_grow (by kernel_rfl) (by kernel_rfl) ?_
        repeat (go_big_quiet_step ((first | (go_at_call 59; exact calls_grow (HX.out _ (below_grow hbw.out _))))))
        refine wpQuiet_nil ?_
        rintro _ ⟨m, rfl⟩
        go_wp2_with fail
        go_roundg (n - (i + 1))
        case measure => omega
        case rel => exact ⟨i + 1, by go_num, Lib.hid (hA.out.grow m), Lib.hid (hBk.out.grow m), Lib.hid (hbel.out.trans ((grow_below m).mono (Nat.le_of_lt lca))), hi, Nat.le_refl _⟩
      · obtain rfl : i = n := by omega
        have gi : decide ((i : Int) < (i : Int)) = false := by simp
        have gin : decide (i < i) = false := by simp
        go_wp2_with fail
        go_ret
        exact ⟨ret_bool rfl, by rw [HG.out]; exact hbel.out⟩

end Go.Proofs.Ytgjhaanpkfheeaa
