/- Of my texts: Whole, Ans. -/
import Derived.Test.YtgjhaanpkfheeaaM21
import Derived.Test.YtgjhaanpkfheeaaM23
import Derived.Test.YtgjhaanpkfheeaaM29
import Derived.Test.YtgjhaanpkfheeaaM30
import Derived.Defers
namespace Go.Proofs.Ytgjhaanpkfheeaa
set_option linter.unusedVariables false
set_option linter.unusedSimpArgs false
open Go.RowKit

theorem solid_append (a b : List Vt) : solidV (a ++ b) = solidV a ++ solidV b := List.filter_append ..

theorem results_cell_cell {fn : Func} {p u : Tmp} {ty ty2 : TypeId} (h : fn.results = #[.cell p ty, .cell u ty2]) (tmps : Array Value) (P : Program) (w : World) :
    (results fn tmps).run P w =
      ((asAddr (tmps.getD p undef)).run P w).andThen fun a w₁ => ((loadVar ty a).run P w₁).andThen fun v w₂ => ((asAddr (tmps.getD u undef)).run P w₂).andThen fun b w₃ => ((loadVar ty2 b).run P w₃).andThen fun v2 w₄ => .ok (.tuple #[v, v2]) w₄ := by
  simp only [results, h]
  simp [Sem.run_bind, Result.andThen]
theorem load_errno {w : World} {p : Addr} {n : Int} (h : w.cell? p = some (.int .i64 n)) : (loadVar 62 p).run Try.prog w = .ok (.int .i64 n) w := by
  simp [go_sem, loadVar, h]
theorem ret_cdcd {fn : Func} {p u : Tmp} {tmps : Array Value} {w : World} {g ge : Nat} {t : TypeId} {cs : Array Value} {n : Int} (hr : fn.results = #[.cell p 49, .cell u 62]) (hp : tmps.getD p undef = .pointer (some ⟨g, 0, none⟩)) (hu : tmps.getD u undef = .pointer (some ⟨ge, 0, none⟩)) (h : Blk w g t cs) (hs : cs.size = 14) (he : w.cell? ⟨ge, 0, none⟩ = some (.int .i64 n)) : (results fn tmps).run Try.prog w = .ok (.tuple #[.agg cs, .int .i64 n]) w := by
  rw [results_cell_cell hr, hp, hu]
  simp only [asAddr, Sem.run_pure, Result.andThen_ok, load_cd h hs, load_errno he]
theorem zero_qd (B : Nat) (w : World) : isQd (· < B) zeroQt (.agg zero14) w :=
  row_qd (k := 0) (v := .slice none 0 0) (D := []) (by unfold I64; decide) (World.ownsRow_nil _ _ _ _) (by simp) (fun x hx => by cases hx) ⟨0, fun _ _ _ x hx => by cases hx⟩

set_option maxRecDepth 20000 in
set_option maxHeartbeats 16000000 in
theorem kwhole_step (bq : Bool) (h : Nat) (hR : ReadQAt bq h) : QWholeAt bq h := by
  intro l oa cap bb o gR w hRd hs hm hz
  obtain ⟨N, hN⟩ : ∃ N, l.length = N := ⟨_, rfl⟩
  obtain ⟨L, hL⟩ : ∃ L, l.map Vl.c = L := ⟨_, rfl⟩
  obtain ⟨X, hX⟩ : ∃ X, wholeQ readQ (leafF bq) h L = X := ⟨_, rfl⟩
  rw [hN, hL, hX]
  have hX2 : readQ (pQ bq h) (solidV L) = X := by
    rw [← hX, whole_pQ]
    intro h0
    subst h0
    rw [← hL]
    cases l with
    | nil => rfl
    | cons x r => exact (hs.each 0 x rfl).elim
  have hsm := hs.small
  have hcl := hs.sl.le
  have hcm := hs.sl.max
  unfold maxLen at hcm
  rw [hN] at hsm hcl
  rw [hL] at hm hz
  have hb1 := below_box w (.cells zero14 49)
  have hb := hb1.alloc (by simp) (.cells #[.int .i64 0] 62)
  have h1 := (Blk.new w 49 zero14).old (.cells #[.int .i64 0] 62)
  have h2 := Blk.new (w.alloc (.cells zero14 49)) 62 #[.int .i64 0]
  have hs1 : (w.alloc (.cells zero14 49)).heap.size = w.heap.size + 1 := by simp
  rw [hs1] at h2
  obtain ⟨g, hg⟩ : ∃ g, w.heap.size = g := ⟨_, rfl⟩
  have HS := Lib.hid (And.intro (hRd.below hb hRd.lt) (And.intro (hs.below hb) (And.intro hm hz)))
  rw [hg] at h1 h2 hb
  have H := Lib.hid (And.intro h1 (And.intro h2 hb))
  have HG := Lib.hid hg
  have HL := Lib.hid (And.intro hN hL)
  have HX := Lib.hid hX2
  clear h1 h2 hb hb1 hs1 hRd hs hm hz hN hL hX hX2
  simp only [zero14] at H HS
  have hmf : ∀ (fn : Fn) (first cap : Array Value) (w : World), (Instr.makeFunc fn first cap).run Try.prog w = .ok (.func fn first cap) w := fun _ _ _ _ => rfl
  go_enter_defers Try.func91, Try.ntmps91
  go_upto_region 3 with fail
  clear hg
  generalize World.alloc (World.alloc w _) _ = wa at *
  have hb0 : Below wa.heap.size wa wa := Below.refl _ _
  have lcg := H.out.1.lt
  have lce := H.out.2.1.lt
  go_wp2_with fail
  go_loopg [6, 12] N (fun q s6 s12 wr => ∃ (i : Nat) (D : List Vl) (v : Value), s12 = .int .i64 i ∧ s6 = v ∧ Hid (Below wa.heap.size wa wr) ∧ Hid (wr.ownsRow wa.heap.size 74 7 v D.length (D.flatMap vcells)) ∧ Hid (D.map Vl.c = solidV (L.take i)) ∧ Hid (∀ x ∈ D, x ∈ l) ∧ D.length ≤ i ∧ i ≤ N ∧ N - i ≤ q)
  case atStart => exact ⟨0, [], _, rfl, rfl, Lib.hid hb0, Lib.hid (World.ownsRow_nil _ _ _ _), Lib.hid rfl, Lib.hid (fun x hx => by cases hx), Nat.le_refl _, Nat.zero_le _, Nat.le_refl _⟩
  case round =>
    obtain ⟨i, D, v, rfl, rfl, hB, hO, hD, hE, hDi, hiN, hq⟩ := hrel
    by_cases hi : i < N
    · have gi : decide ((i : Int) < (N : Int)) = true := by simpa using hi
      have gin : decide (i < N) = true := by simpa using hi
      have ij0 : (0 : Int) ≤ (i : Int) := Int.natCast_nonneg _
      have ijN : (i : Int) < (N : Int) := by omega
      have hil : i < l.length := by rw [HL.out.1]; exact hi
      have hli : l[i]? = some l[i] := List.getElem?_eq_getElem hil
      obtain ⟨x, hx⟩ : ∃ x, l[i] = x := ⟨_, rfl⟩
      rw [hx] at hli
      have hLi : L.take (i + 1) = L.take i ++ [x.c] := by
        rw [← HL.out.2, List.take_add_one, List.getElem?_map, hli]
        rfl
      have hxl := List.mem_of_getElem? hli
      have hvs := HS.out.2.1.below hB.out
      obtain ⟨rfl, hbl⟩ := hvs.sl.lies (by omega)
      obtain ⟨t, koa, kb, ko, kcap, kids⟩ := x
      obtain ⟨K, hK⟩ : ∃ K, kids.length = K := ⟨_, rfl⟩
      have f0 := hvs.cell hli (j := 0) rfl
      have f1 := hvs.cell hli (j := 1) rfl
      have f2 := hvs.cell hli (j := 2) rfl
      have f3 := hvs.cell hli (j := 3) rfl
      have f4 := hvs.cell hli (j := 4) rfl
      have f5 := hvs.cell hli (j := 5) rfl
      have f6 := hvs.cell hli (j := 6) rfl
      rw [Nat.add_zero] at f0
      rw [hK] at f6
      obtain ⟨tk, tt, ⟨tn, td⟩, ti, tid⟩ := t
      have hvc : vcells (.mk ⟨tk, tt, (tn, td), ti, tid⟩ koa kb ko kcap kids) = [.int .i64 tk, .string ⟨tt.toArray⟩, .int .i64 tn, .int .i64 td, .bool ti, .bool tid, .slice koa K kcap] := by rw [← hK]; rfl
      have HXL := Lib.hid (And.intro hxl (And.intro hvc hLi))
      clear hvs hli hil hx hxl hvc hLi hK
      go_upto_region 6 with fail
      have hbx := below_box wr (.cells #[.int .i64 tk, .string ⟨tt.toArray⟩, .int .i64 tn, .int .i64 td, .bool ti, .bool tid, .slice koa K kcap] 74)
      have h8 := Blk.new wr 74 #[.int .i64 tk, .string ⟨tt.toArray⟩, .int .i64 tn, .int .i64 td, .bool ti, .bool tid, .slice koa K kcap]
      have HB2 := Lib.hid (hB.out.trans (hbx.mono hB.out.size))
      have HO2 := Lib.hid (hO.out.alloc (.cells #[.int .i64 tk, .string ⟨tt.toArray⟩, .int .i64 tn, .int .i64 td, .bool ti, .bool tid, .slice koa K kcap] 74))
      clear hB hO hbx f0 f1 f2 f3 f4 f5 f6
      generalize wr.heap.size = g8 at *
      generalize World.alloc wr _ = wv at *
      have cv0 : wv.cell? ⟨g8, 0, none⟩ = some (.int .i64 tk) := (h8).cell 0
      have fcv0 := (h8).frozen 0
      have cv1 : wv.cell? ⟨g8, 1, none⟩ = some (.string ⟨tt.toArray⟩) := (h8).cell 1
      have fcv1 := (h8).frozen 1
      have cv2 : wv.cell? ⟨g8, 2, none⟩ = some (.int .i64 tn) := (h8).cell 2
      have fcv2 := (h8).frozen 2
      have cv3 : wv.cell? ⟨g8, 3, none⟩ = some (.int .i64 td) := (h8).cell 3
      have fcv3 := (h8).frozen 3
      have cv4 : wv.cell? ⟨g8, 4, none⟩ = some (.bool ti) := (h8).cell 4
      have fcv4 := (h8).frozen 4
      have cv5 : wv.cell? ⟨g8, 5, none⟩ = some (.bool tid) := (h8).cell 5
      have fcv5 := (h8).frozen 5
      have cv6 : wv.cell? ⟨g8, 6, none⟩ = some (.slice koa K kcap) := (h8).cell 6
      have fcv6 := (h8).frozen 6
      have lcv := (h8).lt
      clear h8
      by_cases h13 : tk = 13
      · subst h13
        go_wp2_with fail
        go_roundg (N - (i + 1))
        case measure => omega
        case rel =>
          refine ⟨i + 1, D, _, by go_num, rfl, HB2, HO2, Lib.hid ?_, hE, by omega, hi, Nat.le_refl _⟩
          rw [HXL.out.2.2, solid_append, hD.out, Vl.c_mk]
          show _ = _ ++ []
          rw [List.append_nil]
      · have gk : (tk != 13) = true := by rw [bne_iff_ne]; exact h13
        have hbs := HB2.out.size
        go_wp2_with (at_builtin; refine wpList_add elVal rfl _ _ rfl rfl (HO2.out.alloc _) (by simp; omega) (Blk.new wv _ _) 1 rfl rfl (by simp [Value.oneCell']) (by omega) (by omega) ?_; intro gg cap3 w3 ho3 hg3 hat hvb; have H3 := Lib.hid (And.intro ho3 (And.intro hg3 hvb)); clear ho3 hg3 hat hvb)
        go_roundg (N - (i + 1))
        case measure => omega
        case rel =>
          obtain ⟨ho3, hg3, hvb⟩ := H3.out
          refine ⟨i + 1, D ++ [.mk ⟨tk, tt, (tn, td), ti, tid⟩ koa kb ko kcap kids], _, by go_num, rfl, Lib.hid (below_far (HB2.out.alloc hbs _) hg3 fun k hk => (hvb k hk).1), Lib.hid ?_, Lib.hid ?_, Lib.hid ?_, by simp; omega, hi, Nat.le_refl _⟩
          · rw [List.length_append, List.flatMap_append, List.flatMap_singleton, HXL.out.2.1]
            exact ho3
          · rw [HXL.out.2.2, solid_append, List.map_append, hD.out, List.map_cons, List.map_nil]
            congr 1
            unfold solidV
            rw [List.filter_cons_of_pos]
            · rfl
            · rw [Vl.c_mk]
              simpa [spV] using h13
          · intro y hy
            rcases List.mem_append.1 hy with hy | hy
            · exact hE.out y hy
            · obtain rfl := List.mem_singleton.1 hy
              exact HXL.out.1
    · obtain rfl : i = N := by omega
      have gi : decide ((i : Int) < (i : Int)) = false := by simp
      have gin : decide (i < i) = false := by simp
      obtain ⟨voa, vcap, vg, rfl, hsl, hpos⟩ := sl_of_own hO.out
      have hDL : D.map Vl.c = solidV L := by
        rw [hD.out, List.take_of_length_le]
        rw [← HL.out.2, List.length_map, HL.out.1]
        exact Nat.le_refl _
      have hvs := HS.out.2.1.below hB.out
      have hrd := hR D voa vcap vg 0 gR wr (HS.out.1.below hB.out HS.out.1.lt) ⟨by omega, hsl, fun j y hy => by
        obtain ⟨j2, hj2, e⟩ := List.getElem_of_mem (hE.out y (List.mem_of_getElem? hy))
        exact hvs.each j2 y (by rw [List.getElem?_eq_getElem hj2, e])⟩ (by obtain ⟨nm, hm⟩ := HS.out.2.2.1; exact ⟨nm, by rw [hDL]; exact may_solid nm _ hm⟩) (by rw [hDL]; exact Nat.le_trans (sz_solid _) HS.out.2.2.2)
      rw [hDL, HX.out] at hrd
      have HRD := Lib.hid hrd
      clear hsl hpos hvs hrd hDL hO hD hE
      generalize D.length = DL at *
      have h1 := H.out.1.below hB.out lcg
      have h2 := H.out.2.1.below hB.out lce
      have HB2 := Lib.hid (H.out.2.2.trans (hB.out.mono (Nat.le_of_lt lcg)))
      have hgr := Nat.lt_of_lt_of_le lce hB.out.size
      have HZ := Lib.hid (And.intro h1 h2)
      clear h1 h2 hB
      go_wp2_with fail
      ((with_reducible refine HRD.out.mono ?_); rintro e we ⟨hp, hbe⟩)
      have h1 := HZ.out.1.below hbe HZ.out.1.lt
      have h2 := HZ.out.2.below hbe HZ.out.2.lt
      have HB3 := Lib.hid (HB2.out.trans (hbe.mono (by omega)))
      have HZ3 := Lib.hid (And.intro h1 h2)
      clear HRD HZ HB2 hbe
      cases X with
      | none =>
        obtain rfl : e = barEnd := hp
        clear h1 h2
        simp only [barEnd]
        go_wp2_with fail
        refine leaves_cons (f := 111) (args := #[.pointer (some ⟨g, 0, none⟩), .pointer (some ⟨g + 1, 0, none⟩)]) (by simp) (by simp [go_sem]) ?_
        refine (trap_panicking g (g + 1) 0 we HZ3.out.1 HZ3.out.2 []).mono ?_
        rintro e u' wf ⟨rfl, rfl, hc, he, hbf⟩
        have hbz := HB3.out.trans (hbf g (Nat.le_refl _) (Nat.le_succ g) (Nat.le_of_lt HZ3.out.1.lt))
        refine ⟨.tuple #[.agg zero14, .int .i64 3], ?_, _, 3, rfl, rfl, ?_, by rw [HG.out]; exact hbz⟩
        · refine ret_cdcd Try.results91 ?_ ?_ hc rfl (he.cell 0)
          all_goals rfl
        · rw [HG.out]
          exact zero_qd _ _
      | some Q =>
        obtain ⟨r, rfl, hq⟩ := hp
        obtain ⟨qk, qa, qn, qc, ⟨q1, q2, q3⟩, hr⟩ := hq.cells
        simp only [qcells] at hr
        subst hr
        have HQ := Lib.hid hq
        clear hq
        have ca0 : we.cell? ⟨g, 0, none⟩ = some (.int .i64 0) := (h1).cell 0
        have fca0 := (h1).frozen 0
        have ca1 : we.cell? ⟨g, 1, none⟩ = some (.slice none 0 0) := (h1).cell 1
        have fca1 := (h1).frozen 1
        have ca2 : we.cell? ⟨g, 2, none⟩ = some (.int .i64 0) := (h1).cell 2
        have fca2 := (h1).frozen 2
        have ca3 : we.cell? ⟨g, 3, none⟩ = some (.int .i64 0) := (h1).cell 3
        have fca3 := (h1).frozen 3
        have ca4 : we.cell? ⟨g, 4, none⟩ = some (.string ⟨#[]⟩) := (h1).cell 4
        have fca4 := (h1).frozen 4
        have ca5 : we.cell? ⟨g, 5, none⟩ = some (.int .i64 0) := (h1).cell 5
        have fca5 := (h1).frozen 5
        have ca6 : we.cell? ⟨g, 6, none⟩ = some (.int .i64 0) := (h1).cell 6
        have fca6 := (h1).frozen 6
        have ca7 : we.cell? ⟨g, 7, none⟩ = some (.int .i64 0) := (h1).cell 7
        have fca7 := (h1).frozen 7
        have ca8 : we.cell? ⟨g, 8, none⟩ = some (.int .i64 0) := (h1).cell 8
        have fca8 := (h1).frozen 8
        have ca9 : we.cell? ⟨g, 9, none⟩ = some (.int .i64 0) := (h1).cell 9
        have fca9 := (h1).frozen 9
        have ca10 : we.cell? ⟨g, 10, none⟩ = some (.slice none 0 0) := (h1).cell 10
        have fca10 := (h1).frozen 10
        have ca11 : we.cell? ⟨g, 11, none⟩ = some (.string ⟨#[]⟩) := (h1).cell 11
        have fca11 := (h1).frozen 11
        have ca12 : we.cell? ⟨g, 12, none⟩ = some (.string ⟨#[]⟩) := (h1).cell 12
        have fca12 := (h1).frozen 12
        have ca13 : we.cell? ⟨g, 13, none⟩ = some (.bool false) := (h1).cell 13
        have fca13 := (h1).frozen 13
        have lca := (h1).lt
        have ce0 : we.cell? ⟨g + 1, 0, none⟩ = some (.int .i64 0) := (h2).cell 0
        have fce0 := (h2).frozen 0
        have lce := (h2).lt
        clear h1 h2
        go_wp2_with fail
        have hz := blk_puts [.int .i64 qk, .slice qa qn qc, .int .i64 q1, .int .i64 q2, .string ⟨q3.toArray⟩, .int .i64 0, .int .i64 0, .int .i64 0, .int .i64 0, .int .i64 0, .slice none 0 0, .string ⟨#[]⟩, .string ⟨#[]⟩, .bool false] zero14.toList we 0 [] HZ3.out.1 rfl rfl
        have hbz := HB3.out.trans (below_put14 [.int .i64 qk, .slice qa qn qc, .int .i64 q1, .int .i64 q2, .string ⟨q3.toArray⟩, .int .i64 0, .int .i64 0, .int .i64 0, .int .i64 0, .int .i64 0, .slice none 0 0, .string ⟨#[]⟩, .string ⟨#[]⟩, .bool false] we g 0)
        have hgz := grownBy_puts [.int .i64 qk, .slice qa qn qc, .int .i64 q1, .int .i64 q2, .string ⟨q3.toArray⟩, .int .i64 0, .int .i64 0, .int .i64 0, .int .i64 0, .int .i64 0, .slice none 0 0, .string ⟨#[]⟩, .string ⟨#[]⟩, .bool false] we g 0
        have hez := HZ3.out.2.keeps hgz (fun e => by have := Option.some.inj e; omega)
        simp only [puts, Nat.zero_add, Nat.reduceAdd] at hz hbz hgz hez
        have hz2 := hz.far (p := ⟨g + 1, 0, none⟩) (by simp) (.int .i64 0)
        have hez2 := hez.put 0 (.int .i64 0)
        have hbz2 := hbz.setCell (p := ⟨g + 1, 0, none⟩) (Nat.le_succ g) (.int .i64 0)
        have hq2 := ((HQ.out.grown hgz (fun k e _ => by have := Option.some.inj e; omega)).grown (grownBy_set _ ⟨g + 1, 0, none⟩ (.int .i64 0)) (fun k e _ => by have e : g + 1 = k := Option.some.inj e; omega)).anti (A' := (· < g)) fun b hb => Or.inl (by omega)
        refine leaves_cons (f := 111) (args := #[.pointer (some ⟨g, 0, none⟩), .pointer (some ⟨g + 1, 0, none⟩)]) (by simp) (by simp [go_sem]) ?_
        refine (trap_idle g (g + 1) _).mono ?_
        rintro e u' wf ⟨rfl, rfl, rfl⟩
        refine ⟨.tuple #[.agg #[.int .i64 qk, .slice qa qn qc, .int .i64 q1, .int .i64 q2, .string ⟨q3.toArray⟩, .int .i64 0, .int .i64 0, .int .i64 0, .int .i64 0, .int .i64 0, .slice none 0 0, .string ⟨#[]⟩, .string ⟨#[]⟩, .bool false], .int .i64 0], ?_, _, 0, rfl, rfl, ?_, by rw [HG.out]; exact hbz2⟩
        · refine ret_cdcd Try.results91 ?_ ?_ hz2 rfl (hez2.cell 0)
          all_goals rfl
        · rw [HG.out]
          exact hq2

end Go.Proofs.Ytgjhaanpkfheeaa

namespace Go.Proofs.Ytgjhaanpkfheeaa
set_option linter.unusedVariables false
set_option linter.unusedSimpArgs false
open Go.RowKit

/-- what a value is as a leaf; what is within; with the place of its kids -/
inductive An where
  | mk (L : Option (Int × Int × List UInt8)) (oa : Option Addr) (b o cap : Nat) (kids : List An)
instance : Inhabited An := ⟨.mk none none 0 0 0 []⟩
def An.L : An → Option (Int × Int × List UInt8)
  | .mk L _ _ _ _ _ => L
def An.kids : An → List An
  | .mk _ _ _ _ _ k => k
def zeroAn : An := .mk none none 0 0 0 []
def lcells1 : Option (Int × Int × List UInt8) → List Value
  | some L => qcells 4 (.slice none 0 0) L
  | none => qcells 0 (.slice none 0 0) (0, 0, [])
def acells : An → List Value
  | .mk L oa _ _ cap kids => lcells1 L ++ [.bool L.isSome, .slice oa kids.length cap]
def av (a : An) : Value := .agg (acells a).toArray
theorem acells_length (a : An) : (acells a).length = 16 := by
  obtain ⟨L, oa, b, o, cap, kids⟩ := a
  cases L <;> rfl
theorem elAns : El 67 103 (.agg #[.int .i64 0, .slice none 0 0, .int .i64 0, .int .i64 0, .string ⟨#[]⟩, .int .i64 0, .int .i64 0, .int .i64 0, .int .i64 0, .int .i64 0, .slice none 0 0, .string ⟨#[]⟩, .string ⟨#[]⟩, .bool false, .bool false, .slice none 0 0]) 16 200 := ⟨Try.underlying67, by kernel_rfl, rfl, by decide⟩

theorem sizeAns : (Try.prog.info? 103).map (·.size) = some 16 := by kernel_rfl
theorem ret_an {fn : Func} {p : Tmp} {tmps : Array Value} {w : World} {g : Nat} {t : TypeId} {cs : Array Value} (hr : fn.results = #[.cell p 103]) (hp : tmps.getD p undef = .pointer (some ⟨g, 0, none⟩)) (h : Blk w g t cs) (hs : cs.size = 16) : (results fn tmps).run Try.prog w = .ok (.agg cs) w :=
  results_cell_row hr tmps w g t cs (0, 0) _ hp h Try.underlying103 rfl (by rw [hs]; exact sizeAns)

/-- the answer lies in the world; its height is below h -/
def AnIn (w : World) : Nat → An → Prop
  | 0, _ => False
  | h + 1, .mk _ oa b o cap kids => Sl w oa kids.length cap b o 16 (kids.flatMap acells) ∧ ∀ (i : Nat) (x : An), kids[i]? = some x → AnIn w h x
/-- answers lie behind a slice -/
structure AnsIn (w : World) (h : Nat) (oa : Option Addr) (cap b o : Nat) (l : List An) : Prop where
  sl : Sl w oa l.length cap b o 16 (l.flatMap acells)
  each : ∀ (i : Nat) (x : An), l[i]? = some x → AnIn w h x
theorem AnIn.below : ∀ (h : Nat) {a : An} {w w' : World}, AnIn w h a → Below w.heap.size w w' → AnIn w' h a
  | 0, _, _, _, hx, _ => hx.elim
  | h + 1, .mk L oa b o cap kids, w, w', hx, hb => ⟨hx.1.below hb, fun i x hi => AnIn.below h (hx.2 i x hi) hb⟩
theorem AnIn.mono : ∀ (h h' : Nat) {w : World} {a : An}, h ≤ h' → AnIn w h a → AnIn w h' a
  | 0, _, _, _, _, hx => hx.elim
  | h + 1, 0, _, _, hl, _ => by omega
  | h + 1, h' + 1, w, .mk L oa b o cap kids, hl, hx => ⟨hx.1, fun i x hi => AnIn.mono h h' (by omega) (hx.2 i x hi)⟩
theorem AnsIn.below {w w' : World} {h : Nat} {oa : Option Addr} {cap b o : Nat} {l : List An} (hs : AnsIn w h oa cap b o l) (hb : Below w.heap.size w w') : AnsIn w' h oa cap b o l := ⟨hs.sl.below hb, fun i x hi => (hs.each i x hi).below h hb⟩
theorem AnsIn.cell {w : World} {h : Nat} {oa : Option Addr} {cap b o : Nat} {l : List An} (hs : AnsIn w h oa cap b o l) {i : Nat} {x : An} (hi : l[i]? = some x) {j : Nat} {v : Value} (hv : (acells x)[j]? = some v) : w.cell? ⟨b, o + i * 16 + j, none⟩ = some v := by
  rw [show o + i * 16 + j = o + (i * 16 + j) by omega]
  exact hs.sl.cell _ _ (flat_at acells_length l i x j v hi hv)
theorem nil_ans (w : World) (h : Nat) : AnsIn w h none 0 0 0 [] := ⟨⟨rfl, Nat.le_refl _, Nat.zero_le _, fun h => absurd h (by simp), fun j v h => by simp at h⟩, fun i x h => by simp at h⟩
theorem zero_an (w : World) (h : Nat) : AnIn w (h + 1) zeroAn := ⟨⟨rfl, Nat.le_refl _, Nat.zero_le _, fun h => absurd h (by simp), fun j v h => by simp at h⟩, fun i x h => by simp at h⟩

/-- these are the answers of these values, so many levels -/
def AnsFor (bq : Bool) : Nat → List Vt → List An → Prop
  | 0, _, _ => True
  | h + 1, l, am => ∀ (i : Nat) (t : Tk) (k : List Vt), l[i]? = some (.mk t k) → ((am[i]?).getD zeroAn).L = (if opensV (.mk t k) then leafF bq (.mk t k) else none) ∧ (t.kind = 21 → ((am[i]?).getD zeroAn).L = none → AnsFor bq h (solidV k) ((am[i]?).getD zeroAn).kids)
theorem nil_for : ∀ (h : Nat) (l : List Vt), AnsFor false h l []
  | 0, _ => trivial
  | h + 1, l => fun i t k hi => ⟨by show none = _; split <;> rfl, fun _ _ => nil_for h (solidV k)⟩
/-- a part, by the reference -/
def pR (bq : Bool) (h : Nat) : Vt → Qt := partQ (leafF bq) (wholeQ parseQ (leafF bq) (h - 1))
theorem whole_pR (bq : Bool) (h : Nat) (l : List Vt) (h0 : h = 0 → l = []) : wholeQ parseQ (leafF bq) h l = parseQ (pR bq h) (solidV l) := by
  cases h with
  | zero => rw [h0 rfl]; rfl
  | succ h => rfl

set_option maxHeartbeats 1000000 in
theorem opens15_any (tk : Int) (tt : List UInt8) (tn td : Int) (ti tid : Bool) (koa : Option Addr) (K kcap : Nat) (k : List Vt) (w : World) :
    Calls Try.prog 94 #[.agg #[.int .i64 tk, .string ⟨tt.toArray⟩, .int .i64 tn, .int .i64 td, .bool ti, .bool tid, .slice koa K kcap]] w fun e w' => e = .returned (.bool (opensV (.mk ⟨tk, tt, (tn, td), ti, tid⟩ k))) ∧ Below w.heap.size w w' := by
  have hX : opensV (.mk ⟨tk, tt, (tn, td), ti, tid⟩ k) = ((tk == 21) || (tk == 2)) := rfl
  rw [hX]
  go_enter Try.func94, Try.ntmps94
  by_cases h : tk = 21
  · subst h
    go_wp2_with fail
    go_ret
    exact ⟨ret_bool rfl, below_box _ _⟩
  · have g : (tk == 21) = false := by simpa using h
    go_wp2_with fail
    go_ret
    exact ⟨ret_bool (by rw [g, Bool.false_or]), below_box _ _⟩

set_option maxHeartbeats 1000000 in
theorem is15_any (tk : Int) (tt : List UInt8) (tn td : Int) (ti tid : Bool) (koa : Option Addr) (K kcap : Nat) (k : List Vt) (s : List UInt8) (hs : lowS s = s) (hs0 : s ≠ []) (hs1 : s.length ≤ 9) (ht : tt.length ≤ 9223372036854775807) (w : World) :
    Calls Try.prog 113 #[.agg #[.int .i64 tk, .string ⟨tt.toArray⟩, .int .i64 tn, .int .i64 td, .bool ti, .bool tid, .slice koa K kcap], .string ⟨s.toArray⟩] w fun e w' => e = .returned (.bool (wordV (.mk ⟨tk, tt, (tn, td), ti, tid⟩ k) == s)) ∧ Below w.heap.size w w' := by
  have HL := Lib.hid (show ∀ wx, Calls Try.prog 127 #[.string ⟨tt.toArray⟩, .string ⟨s.toArray⟩] wx fun e w' => e = .returned (.bool (lowS tt == s)) ∧ Below wx.heap.size wx w' from fun wx => by
    have := like63_any tt s wx ht (by omega)
    unfold likeS at this
    rw [hs] at this
    exact this)
  have hb := Lib.hid (below_box w (.cells #[.int .i64 tk, .string ⟨tt.toArray⟩, .int .i64 tn, .int .i64 td, .bool ti, .bool tid, .slice koa K kcap] 74))
  go_enter Try.func113, Try.ntmps113
  by_cases h : tk = 1
  · subst h
    have hX : wordV (.mk ⟨1, tt, (tn, td), ti, tid⟩ k) = lowS tt := rfl
    rw [hX]
    obtain ⟨B, hB⟩ : ∃ B, (lowS tt == s) = B := ⟨_, rfl⟩
    rw [hB]
    rw [hB] at HL
    clear hX hB hs
    go_wp2_with fail
    ((with_reducible refine ((HL.out _)).mono ?_); rintro e w' ⟨rfl, hbw⟩)
    obtain ⟨m, rfl⟩ := grow_mk hbw
    clear hbw
    go_wp2_with fail
    go_ret
    exact ⟨ret_bool rfl, below_grow hb.out m⟩
  · have g : (tk == 1) = false := by simpa using h
    have hX : (wordV (.mk ⟨tk, tt, (tn, td), ti, tid⟩ k) == s) = false := by
      rw [beq_eq_false_iff_ne]
      show (if tk = 1 then _ else _) ≠ s
      rw [if_neg h]
      exact fun e => hs0 e.symm
    rw [hX]
    go_wp2_with fail
    go_ret
    exact ⟨ret_bool rfl, hb.out⟩

set_option maxHeartbeats 1000000 in
theorem kleaf15_any (w : World) : Calls Try.prog 128 #[.agg #[.int .i64 0, .int .i64 0, .string ⟨#[]⟩, .int .i64 0, .int .i64 0, .int .i64 0, .int .i64 0, .int .i64 0, .slice none 0 0, .string ⟨#[]⟩, .string ⟨#[]⟩, .bool false]] w fun e w' => e = .returned (.agg #[.int .i64 4, .slice none 0 0, .int .i64 0, .int .i64 0, .string ⟨#[]⟩, .int .i64 0, .int .i64 0, .int .i64 0, .int .i64 0, .int .i64 0, .slice none 0 0, .string ⟨#[]⟩, .string ⟨#[]⟩, .bool false]) ∧ Below w.heap.size w w' := by
  have hb := below_box w (.cells #[.int .i64 0, .int .i64 0, .string ⟨#[]⟩, .int .i64 0, .int .i64 0, .int .i64 0, .int .i64 0, .int .i64 0, .slice none 0 0, .string ⟨#[]⟩, .string ⟨#[]⟩, .bool false] 47)
  have h2 := Blk.new (w.alloc (.cells #[.int .i64 0, .int .i64 0, .string ⟨#[]⟩, .int .i64 0, .int .i64 0, .int .i64 0, .int .i64 0, .int .i64 0, .slice none 0 0, .string ⟨#[]⟩, .string ⟨#[]⟩, .bool false] 47)) 49 #[.int .i64 4, .slice none 0 0, .int .i64 0, .int .i64 0, .string ⟨#[]⟩, .int .i64 0, .int .i64 0, .int .i64 0, .int .i64 0, .int .i64 0, .slice none 0 0, .string ⟨#[]⟩, .string ⟨#[]⟩, .bool false]
  have hb2 := hb.alloc (by simp) (.cells #[.int .i64 4, .slice none 0 0, .int .i64 0, .int .i64 0, .string ⟨#[]⟩, .int .i64 0, .int .i64 0, .int .i64 0, .int .i64 0, .int .i64 0, .slice none 0 0, .string ⟨#[]⟩, .string ⟨#[]⟩, .bool false] 49)
  have hs2 : (w.alloc (.cells #[.int .i64 0, .int .i64 0, .string ⟨#[]⟩, .int .i64 0, .int .i64 0, .int .i64 0, .int .i64 0, .int .i64 0, .slice none 0 0, .string ⟨#[]⟩, .string ⟨#[]⟩, .bool false] 47)).heap.size = w.heap.size + 1 := by simp
  rw [hs2] at h2
  have H := Lib.hid (And.intro h2 hb2)
  clear h2 hb hb2 hs2
  go_enter Try.func128, Try.ntmps128
  go_wp2_with fail
  refine bodyPost_ret (v := .agg #[.int .i64 4, .slice none 0 0, .int .i64 0, .int .i64 0, .string ⟨#[]⟩, .int .i64 0, .int .i64 0, .int .i64 0, .int .i64 0, .int .i64 0, .slice none 0 0, .string ⟨#[]⟩, .string ⟨#[]⟩, .bool false]) ?_ rfl ?_
  · refine ret_cd Try.results128 ?_ H.out.1 rfl
    rfl
  · exact ⟨rfl, H.out.2⟩

set_option maxHeartbeats 1000000 in
theorem at15_any (h : Nat) (l : List An) (oa : Option Addr) (cap b o i : Nat) (w : World) (hs : AnsIn w h oa cap b o l) (hi : i ≤ 4611686018427387904) :
    Calls Try.prog 115 #[.slice oa l.length cap, .int .i64 (i : Int)] w fun e w' => e = .returned (av ((l[i]?).getD zeroAn)) ∧ Below w.heap.size w w' := by
  have hcl := hs.sl.le
  have hcm := hs.sl.max
  unfold maxLen at hcm
  have hb := below_box w (.cells #[.int .i64 0, .slice none 0 0, .int .i64 0, .int .i64 0, .string ⟨#[]⟩, .int .i64 0, .int .i64 0, .int .i64 0, .int .i64 0, .int .i64 0, .slice none 0 0, .string ⟨#[]⟩, .string ⟨#[]⟩, .bool false, .bool false, .slice none 0 0] 103)
  have h1 := Blk.new w 103 #[.int .i64 0, .slice none 0 0, .int .i64 0, .int .i64 0, .string ⟨#[]⟩, .int .i64 0, .int .i64 0, .int .i64 0, .int .i64 0, .int .i64 0, .slice none 0 0, .string ⟨#[]⟩, .string ⟨#[]⟩, .bool false, .bool false, .slice none 0 0]
  have H := Lib.hid (And.intro h1 (And.intro hb (hs.below hb)))
  clear h1 hb hs
  obtain ⟨n, hn⟩ : ∃ n, l.length = n := ⟨_, rfl⟩
  rw [hn] at hcl
  obtain ⟨Y, hY⟩ : ∃ Y, av ((l[i]?).getD zeroAn) = Y := ⟨_, rfl⟩
  rw [hn, hY]
  have HN := Lib.hid hn
  have HY := Lib.hid hY
  clear hn hY
  go_enter Try.func115, Try.ntmps115
  go_upto_region 1 with fail
  obtain ⟨g, hg⟩ : ∃ g, w.heap.size = g := ⟨_, rfl⟩
  rw [hg] at H
  simp only [hg]
  have HG := Lib.hid hg
  clear hg
  generalize World.alloc w _ = wa at *
  have h1 := H.out.1
  have ca0 : wa.cell? ⟨g, 0, none⟩ = some (.int .i64 0) := (h1).cell 0
  have fca0 := (h1).frozen 0
  have ca1 : wa.cell? ⟨g, 1, none⟩ = some (.slice none 0 0) := (h1).cell 1
  have fca1 := (h1).frozen 1
  have ca2 : wa.cell? ⟨g, 2, none⟩ = some (.int .i64 0) := (h1).cell 2
  have fca2 := (h1).frozen 2
  have ca3 : wa.cell? ⟨g, 3, none⟩ = some (.int .i64 0) := (h1).cell 3
  have fca3 := (h1).frozen 3
  have ca4 : wa.cell? ⟨g, 4, none⟩ = some (.string ⟨#[]⟩) := (h1).cell 4
  have fca4 := (h1).frozen 4
  have ca5 : wa.cell? ⟨g, 5, none⟩ = some (.int .i64 0) := (h1).cell 5
  have fca5 := (h1).frozen 5
  have ca6 : wa.cell? ⟨g, 6, none⟩ = some (.int .i64 0) := (h1).cell 6
  have fca6 := (h1).frozen 6
  have ca7 : wa.cell? ⟨g, 7, none⟩ = some (.int .i64 0) := (h1).cell 7
  have fca7 := (h1).frozen 7
  have ca8 : wa.cell? ⟨g, 8, none⟩ = some (.int .i64 0) := (h1).cell 8
  have fca8 := (h1).frozen 8
  have ca9 : wa.cell? ⟨g, 9, none⟩ = some (.int .i64 0) := (h1).cell 9
  have fca9 := (h1).frozen 9
  have ca10 : wa.cell? ⟨g, 10, none⟩ = some (.slice none 0 0) := (h1).cell 10
  have fca10 := (h1).frozen 10
  have ca11 : wa.cell? ⟨g, 11, none⟩ = some (.string ⟨#[]⟩) := (h1).cell 11
  have fca11 := (h1).frozen 11
  have ca12 : wa.cell? ⟨g, 12, none⟩ = some (.string ⟨#[]⟩) := (h1).cell 12
  have fca12 := (h1).frozen 12
  have ca13 : wa.cell? ⟨g, 13, none⟩ = some (.bool false) := (h1).cell 13
  have fca13 := (h1).frozen 13
  have ca14 : wa.cell? ⟨g, 14, none⟩ = some (.bool false) := (h1).cell 14
  have fca14 := (h1).frozen 14
  have ca15 : wa.cell? ⟨g, 15, none⟩ = some (.slice none 0 0) := (h1).cell 15
  have fca15 := (h1).frozen 15
  have lca := (h1).lt
  clear h1
  by_cases hiN : i < n
  · have gi : decide ((n : Int) ≤ (i : Int)) = false := by simp; omega
    have gin : decide (n ≤ i) = false := by simp; omega
    have ij0 : (0 : Int) ≤ (i : Int) := Int.natCast_nonneg _
    have ijN : (i : Int) < (n : Int) := by omega
    have hil : i < l.length := by rw [HN.out]; exact hiN
    have hli : l[i]? = some l[i] := List.getElem?_eq_getElem hil
    obtain ⟨x, hx⟩ : ∃ x, l[i] = x := ⟨_, rfl⟩
    rw [hx] at hli
    have hvs := H.out.2.2
    obtain ⟨rfl, hbl⟩ := hvs.sl.lies (by omega)
    obtain ⟨L, koa, kb, ko, kcap, kids⟩ := x
    obtain ⟨k, a1, a2, s, ok, ho⟩ : ∃ (k a1 a2 : Int) (s : ByteArray) (ok : Bool), acells (.mk L koa kb ko kcap kids) = [.int .i64 k, .slice none 0 0, .int .i64 a1, .int .i64 a2, .string s, .int .i64 0, .int .i64 0, .int .i64 0, .int .i64 0, .int .i64 0, .slice none 0 0, .string ⟨#[]⟩, .string ⟨#[]⟩, .bool false, .bool ok, .slice koa kids.length kcap] := by
      cases L with
      | none => exact ⟨_, _, _, _, _, rfl⟩
      | some L => exact ⟨_, _, _, _, _, rfl⟩
    have hav : Y = .agg #[.int .i64 k, .slice none 0 0, .int .i64 a1, .int .i64 a2, .string s, .int .i64 0, .int .i64 0, .int .i64 0, .int .i64 0, .int .i64 0, .slice none 0 0, .string ⟨#[]⟩, .string ⟨#[]⟩, .bool false, .bool ok, .slice koa kids.length kcap] := by
      rw [← HY.out, hli]
      show Value.agg (acells (.mk L koa kb ko kcap kids)).toArray = _
      rw [ho]
    have HAV := Lib.hid hav
    have f0 : wa.cell? ⟨b, o + i * 16, none⟩ = some (.int .i64 k) := hvs.cell hli (j := 0) (by rw [ho]; rfl)
    have f1 : wa.cell? ⟨b, o + i * 16 + 1, none⟩ = some (.slice none 0 0) := hvs.cell hli (j := 1) (by rw [ho]; rfl)
    have f2 : wa.cell? ⟨b, o + i * 16 + 2, none⟩ = some (.int .i64 a1) := hvs.cell hli (j := 2) (by rw [ho]; rfl)
    have f3 : wa.cell? ⟨b, o + i * 16 + 3, none⟩ = some (.int .i64 a2) := hvs.cell hli (j := 3) (by rw [ho]; rfl)
    have f4 : wa.cell? ⟨b, o + i * 16 + 4, none⟩ = some (.string s) := hvs.cell hli (j := 4) (by rw [ho]; rfl)
    have f5 : wa.cell? ⟨b, o + i * 16 + 5, none⟩ = some (.int .i64 0) := hvs.cell hli (j := 5) (by rw [ho]; rfl)
    have f6 : wa.cell? ⟨b, o + i * 16 + 6, none⟩ = some (.int .i64 0) := hvs.cell hli (j := 6) (by rw [ho]; rfl)
    have f7 : wa.cell? ⟨b, o + i * 16 + 7, none⟩ = some (.int .i64 0) := hvs.cell hli (j := 7) (by rw [ho]; rfl)
    have f8 : wa.cell? ⟨b, o + i * 16 + 8, none⟩ = some (.int .i64 0) := hvs.cell hli (j := 8) (by rw [ho]; rfl)
    have f9 : wa.cell? ⟨b, o + i * 16 + 9, none⟩ = some (.int .i64 0) := hvs.cell hli (j := 9) (by rw [ho]; rfl)
    have f10 : wa.cell? ⟨b, o + i * 16 + 10, none⟩ = some (.slice none 0 0) := hvs.cell hli (j := 10) (by rw [ho]; rfl)
    have f11 : wa.cell? ⟨b, o + i * 16 + 11, none⟩ = some (.string ⟨#[]⟩) := hvs.cell hli (j := 11) (by rw [ho]; rfl)
    have f12 : wa.cell? ⟨b, o + i * 16 + 12, none⟩ = some (.string ⟨#[]⟩) := hvs.cell hli (j := 12) (by rw [ho]; rfl)
    have f13 : wa.cell? ⟨b, o + i * 16 + 13, none⟩ = some (.bool false) := hvs.cell hli (j := 13) (by rw [ho]; rfl)
    have f14 : wa.cell? ⟨b, o + i * 16 + 14, none⟩ = some (.bool ok) := hvs.cell hli (j := 14) (by rw [ho]; rfl)
    have f15 : wa.cell? ⟨b, o + i * 16 + 15, none⟩ = some (.slice koa kids.length kcap) := hvs.cell hli (j := 15) (by rw [ho]; rfl)
    clear hvs hli hil hx hav ho
    generalize kids.length = K at *
    go_wp2_with fail
    have hz := blk_puts [.int .i64 k, .slice none 0 0, .int .i64 a1, .int .i64 a2, .string s, .int .i64 0, .int .i64 0, .int .i64 0, .int .i64 0, .int .i64 0, .slice none 0 0, .string ⟨#[]⟩, .string ⟨#[]⟩, .bool false, .bool ok, .slice koa K kcap] [.int .i64 0, .slice none 0 0, .int .i64 0, .int .i64 0, .string ⟨#[]⟩, .int .i64 0, .int .i64 0, .int .i64 0, .int .i64 0, .int .i64 0, .slice none 0 0, .string ⟨#[]⟩, .string ⟨#[]⟩, .bool false, .bool false, .slice none 0 0] wa 0 [] H.out.1 rfl rfl
    have hbz := H.out.2.1.trans (below_put14 [.int .i64 k, .slice none 0 0, .int .i64 a1, .int .i64 a2, .string s, .int .i64 0, .int .i64 0, .int .i64 0, .int .i64 0, .int .i64 0, .slice none 0 0, .string ⟨#[]⟩, .string ⟨#[]⟩, .bool false, .bool ok, .slice koa K kcap] wa g 0)
    simp only [puts, Nat.zero_add, Nat.reduceAdd] at hz hbz
    refine bodyPost_ret (v := .agg #[.int .i64 k, .slice none 0 0, .int .i64 a1, .int .i64 a2, .string s, .int .i64 0, .int .i64 0, .int .i64 0, .int .i64 0, .int .i64 0, .slice none 0 0, .string ⟨#[]⟩, .string ⟨#[]⟩, .bool false, .bool ok, .slice koa K kcap]) ?_ rfl ?_
    · refine ret_an Try.results115 ?_ hz rfl
      rfl
    · exact ⟨by rw [HAV.out], by rw [HG.out]; exact hbz⟩
  · have gi : decide ((n : Int) ≤ (i : Int)) = true := by simp; omega
    have gin : decide (n ≤ i) = true := by simp; omega
    have hav : Y = av zeroAn := by
      rw [← HY.out, List.getElem?_eq_none (by rw [HN.out]; omega)]
      rfl
    have HAV := Lib.hid hav
    clear hav
    go_wp2_with fail
    have hz := blk_puts [.int .i64 0, .slice none 0 0, .int .i64 0, .int .i64 0, .string ⟨#[]⟩, .int .i64 0, .int .i64 0, .int .i64 0, .int .i64 0, .int .i64 0, .slice none 0 0, .string ⟨#[]⟩, .string ⟨#[]⟩, .bool false, .bool false, .slice none 0 0] [.int .i64 0, .slice none 0 0, .int .i64 0, .int .i64 0, .string ⟨#[]⟩, .int .i64 0, .int .i64 0, .int .i64 0, .int .i64 0, .int .i64 0, .slice none 0 0, .string ⟨#[]⟩, .string ⟨#[]⟩, .bool false, .bool false, .slice none 0 0] wa 0 [] H.out.1 rfl rfl
    have hbz := H.out.2.1.trans (below_put14 [.int .i64 0, .slice none 0 0, .int .i64 0, .int .i64 0, .string ⟨#[]⟩, .int .i64 0, .int .i64 0, .int .i64 0, .int .i64 0, .int .i64 0, .slice none 0 0, .string ⟨#[]⟩, .string ⟨#[]⟩, .bool false, .bool false, .slice none 0 0] wa g 0)
    simp only [puts, Nat.zero_add, Nat.reduceAdd] at hz hbz
    refine bodyPost_ret (v := .agg #[.int .i64 0, .slice none 0 0, .int .i64 0, .int .i64 0, .string ⟨#[]⟩, .int .i64 0, .int .i64 0, .int .i64 0, .int .i64 0, .int .i64 0, .slice none 0 0, .string ⟨#[]⟩, .string ⟨#[]⟩, .bool false, .bool false, .slice none 0 0]) ?_ rfl ?_
    · refine ret_an Try.results115 ?_ hz rfl
      rfl
    · exact ⟨by rw [HAV.out]; rfl, by rw [HG.out]; exact hbz⟩

end Go.Proofs.Ytgjhaanpkfheeaa
