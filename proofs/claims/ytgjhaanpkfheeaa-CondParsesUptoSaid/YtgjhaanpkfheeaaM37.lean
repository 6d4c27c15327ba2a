/- Of my texts: WalkConds. -/
import Derived.Test.YtgjhaanpkfheeaaM19
import Derived.Test.YtgjhaanpkfheeaaM35
import Derived.Test.YtgjhaanpkfheeaaM36
namespace Go.Proofs.Ytgjhaanpkfheeaa
set_option linter.unusedVariables false
set_option linter.unusedSimpArgs false
open Go.RowKit

theorem same_pair {A A' : Nat → Prop} {Q : Qt} {v v' : Value} {w : World} (h : isQd A Q v w) (h' : isQd A' Q v' w) :
    Calls Try.prog 59 #[v, v'] w fun e w' => e = .returned (.bool true) ∧ Below w.heap.size w w' := by
  obtain ⟨x, hx, rfl, hq, hb, hs⟩ := h
  obtain ⟨y, hy, rfl, hq', hb', hs'⟩ := h'
  exact qsame_any (max hx hy) x y w (cdin_up _ _ (Nat.le_max_left _ _) hs.here) (cdin_up _ _ (Nat.le_max_right _ _) hs'.here) (hq.trans hq'.symm) hb hb'

set_option maxRecDepth 20000 in
set_option maxHeartbeats 16000000 in
theorem law_condParses (h : Nat) (l : List Vl) (oa : Option Addr) (cap bb o : Nat) (w : World) (hs : VsIn w h oa cap bb o l) (hz : szV (l.map Vl.c) ≤ 1048576) :
    Calls Try.prog 18 #[.slice oa l.length cap] w fun e w' => e = .returned (.bool true) ∧ Below w.heap.size w w' := by
  obtain ⟨N, hN⟩ : ∃ N, l.length = N := ⟨_, rfl⟩
  obtain ⟨L, hL⟩ : ∃ L, l.map Vl.c = L := ⟨_, rfl⟩
  have hz2 : szV (l.map Vl.c) ≤ 1073741824 := by omega
  have HS := Lib.hid (And.intro hs (And.intro hz2 (And.intro hN hL)))
  have H1 := Lib.hid (show Calls Try.prog 55 #[.slice oa N cap, .func (.func 56) #[] #[]] w fun e w' => ∃ (r : Value) (code : Int), e = .returned (.tuple #[r, .int .i64 code]) ∧ code = codeQ true h L ∧ isQd (· < w.heap.size) (condQ true h L) r w' ∧ Below w.heap.size w w' from by
    have := kparse_any true h l oa cap bb o w hs hz2
    rw [hN, hL] at this
    exact this)
  rw [hN]
  obtain ⟨C1, hC1⟩ : ∃ C, codeQ true h L = C := ⟨_, rfl⟩
  obtain ⟨Q1, hQ1⟩ : ∃ Q, condQ true h L = Q := ⟨_, rfl⟩
  obtain ⟨C2, hC2⟩ : ∃ C, codeQ false h L = C := ⟨_, rfl⟩
  obtain ⟨Q2, hQ2⟩ : ∃ Q, condQ false h L = Q := ⟨_, rfl⟩
  rw [hC1, hQ1] at H1
  have HC := Lib.hid (And.intro (And.intro hC1 hQ1) (And.intro hC2 hQ2))
  clear hs hz hz2 hN hL hC1 hQ1 hC2 hQ2
  go_enter Try.func18, Try.ntmps18
  go_wp2_with fail
  ((with_reducible refine H1.out.mono ?_); rintro e w1 ⟨r, code, rfl, hcode, hq, hb1⟩)
  have hcode2 := hcode.symm
  clear hcode
  subst hcode2
  obtain ⟨rka, roa, rla, rca, ⟨rxa, rya, rza⟩, hr⟩ := hq.cells
  simp only [qcells] at hr
  subst hr
  have HQa := Lib.hid (hq.below (below_box w1 (.cells #[.int .i64 rka, .slice roa rla rca, .int .i64 rxa, .int .i64 rya, .string ⟨rza.toArray⟩, .int .i64 0, .int .i64 0, .int .i64 0, .int .i64 0, .int .i64 0, .slice none 0 0, .string ⟨#[]⟩, .string ⟨#[]⟩, .bool false] 49)))
  have Ha := Lib.hid (Blk.new w1 49 #[.int .i64 rka, .slice roa rla rca, .int .i64 rxa, .int .i64 rya, .string ⟨rza.toArray⟩, .int .i64 0, .int .i64 0, .int .i64 0, .int .i64 0, .int .i64 0, .slice none 0 0, .string ⟨#[]⟩, .string ⟨#[]⟩, .bool false])
  have HB1 := Lib.hid (hb1.trans ((below_box w1 (.cells #[.int .i64 rka, .slice roa rla rca, .int .i64 rxa, .int .i64 rya, .string ⟨rza.toArray⟩, .int .i64 0, .int .i64 0, .int .i64 0, .int .i64 0, .int .i64 0, .slice none 0 0, .string ⟨#[]⟩, .string ⟨#[]⟩, .bool false] 49)).mono hb1.size))
  clear hq hb1 H1
  go_upto_region 2 with fail
  generalize w1.heap.size = ga at *
  generalize World.alloc w1 _ = wa at *
  have hvs := HS.out.1.below HB1.out
  have HAN := Lib.hid (show Calls Try.prog 58 #[.slice oa N cap, .func (.func 56) #[] #[]] wa fun e w' => (∃ (am : List An) (aoa : Option Addr) (acap ab ha : Nat), e = .returned (.slice aoa am.length acap) ∧ Safe (· < wa.heap.size) w' (fun w => AnsIn w ha aoa acap ab 0 am) ∧ (mayV 64 (l.map Vl.c) = true → AnsFor true h (solidV (l.map Vl.c)) am)) ∧ Below wa.heap.size wa w' from by
    have := answers_all h l oa cap bb o wa hvs HS.out.2.1
    rw [HS.out.2.2.1] at this
    exact this)
  clear hvs
  go_wp2_with fail
  ((with_reducible refine HAN.out.mono ?_); rintro e w2 ⟨⟨am, aoa, acap, ab, ha, rfl, hsm, hfm⟩, hb2⟩)
  have hvs := HS.out.1.below (HB1.out.trans (hb2.mono HB1.out.size))
  have hrp := r15parse_any true h l oa cap bb o am aoa acap ab 0 ha w2 hvs HS.out.2.1 hsm.here hfm
  rw [HS.out.2.2.1, HS.out.2.2.2, HC.out.1.1, HC.out.1.2] at hrp
  have HRP := Lib.hid hrp
  have HB2 := Lib.hid (HB1.out.trans (hb2.mono HB1.out.size))
  have Ha2 := Lib.hid (Ha.out.below hb2 Ha.out.lt)
  have HQa2 := Lib.hid (HQa.out.below hb2)
  clear hvs hrp hsm hfm hb2 HAN HB1 Ha HQa
  generalize am.length = AL at *
  go_wp2_with fail
  ((with_reducible refine HRP.out.mono ?_); rintro e w3 ⟨r, code, rfl, hcode, hq, hb3⟩)
  have hcode2 := hcode.symm
  clear hcode
  subst hcode2
  obtain ⟨rkb, rob, rlb, rcb, ⟨rxb, ryb, rzb⟩, hr⟩ := hq.cells
  simp only [qcells] at hr
  subst hr
  have hbx := below_box w3 (.cells #[.int .i64 rkb, .slice rob rlb rcb, .int .i64 rxb, .int .i64 ryb, .string ⟨rzb.toArray⟩, .int .i64 0, .int .i64 0, .int .i64 0, .int .i64 0, .int .i64 0, .slice none 0 0, .string ⟨#[]⟩, .string ⟨#[]⟩, .bool false] 49)
  have hbb := hb3.trans (hbx.mono hb3.size)
  have HQb := Lib.hid (hq.below hbx)
  have Hb := Lib.hid (Blk.new w3 49 #[.int .i64 rkb, .slice rob rlb rcb, .int .i64 rxb, .int .i64 ryb, .string ⟨rzb.toArray⟩, .int .i64 0, .int .i64 0, .int .i64 0, .int .i64 0, .int .i64 0, .slice none 0 0, .string ⟨#[]⟩, .string ⟨#[]⟩, .bool false])
  have HB3 := Lib.hid (HB2.out.trans (hbb.mono HB2.out.size))
  have Ha3 := Lib.hid (Ha2.out.below hbb Ha2.out.lt)
  have HQa3 := Lib.hid (HQa2.out.below hbb)
  clear hq hb3 hbx hbb HRP HB2 Ha2 HQa2
  go_upto_region 3 with fail
  generalize w3.heap.size = gb at *
  generalize World.alloc w3 _ = wb at *
  have hkp := kparse_any false h l oa cap bb o wb (HS.out.1.below HB3.out) HS.out.2.1
  rw [HS.out.2.2.1, HS.out.2.2.2, HC.out.2.1, HC.out.2.2] at hkp
  have HKP := Lib.hid (show Calls Try.prog 55 #[.slice oa N cap, .nilFunc] wb fun e w' => ∃ (r : Value) (code : Int), e = .returned (.tuple #[r, .int .i64 code]) ∧ code = C2 ∧ isQd (· < wb.heap.size) Q2 r w' ∧ Below wb.heap.size wb w' from hkp)
  clear hkp
  go_wp2_with fail
  ((with_reducible refine HKP.out.mono ?_); rintro e w4 ⟨r, code, rfl, hcode, hq, hb3⟩)
  have hcode2 := hcode.symm
  clear hcode
  subst hcode2
  obtain ⟨rkc, roc, rlc, rcc, ⟨rxc, ryc, rzc⟩, hr⟩ := hq.cells
  simp only [qcells] at hr
  subst hr
  have hbx := below_box w4 (.cells #[.int .i64 rkc, .slice roc rlc rcc, .int .i64 rxc, .int .i64 ryc, .string ⟨rzc.toArray⟩, .int .i64 0, .int .i64 0, .int .i64 0, .int .i64 0, .int .i64 0, .slice none 0 0, .string ⟨#[]⟩, .string ⟨#[]⟩, .bool false] 49)
  have hbb := hb3.trans (hbx.mono hb3.size)
  have HQc := Lib.hid (hq.below hbx)
  have Hc := Lib.hid (Blk.new w4 49 #[.int .i64 rkc, .slice roc rlc rcc, .int .i64 rxc, .int .i64 ryc, .string ⟨rzc.toArray⟩, .int .i64 0, .int .i64 0, .int .i64 0, .int .i64 0, .int .i64 0, .slice none 0 0, .string ⟨#[]⟩, .string ⟨#[]⟩, .bool false])
  have HB4 := Lib.hid (HB3.out.trans (hbb.mono HB3.out.size))
  have Ha4 := Lib.hid (Ha3.out.below hbb Ha3.out.lt)
  have HQa4 := Lib.hid (HQa3.out.below hbb)
  have Hb4 := Lib.hid (Hb.out.below hbb Hb.out.lt)
  have HQb4 := Lib.hid (HQb.out.below hbb)
  clear hq hb3 hbx hbb HKP HB3 Ha3 HQa3 Hb HQb
  go_upto_region 4 with fail
  generalize w4.heap.size = gc at *
  generalize World.alloc w4 _ = wc at *
  have hrp := r15parse_any false h l oa cap bb o [] none 0 0 0 0 wc (HS.out.1.below HB4.out) HS.out.2.1 (nil_ans wc 0) (fun _ => nil_for h _)
  rw [HS.out.2.2.1, HS.out.2.2.2, HC.out.2.1, HC.out.2.2] at hrp
  have HRP := Lib.hid (show Calls Try.prog 57 #[.slice oa N cap, .slice none 0 0] wc fun e w' => ∃ (r : Value) (code : Int), e = .returned (.tuple #[r, .int .i64 code]) ∧ code = C2 ∧ isQd (· < wc.heap.size) Q2 r w' ∧ Below wc.heap.size wc w' from hrp)
  clear hrp
  go_wp2_with fail
  ((with_reducible refine HRP.out.mono ?_); rintro e w5 ⟨r, code, rfl, hcode, hq, hb3⟩)
  have hcode2 := hcode.symm
  clear hcode
  subst hcode2
  obtain ⟨rkd, rod, rld, rcd, ⟨rxd, ryd, rzd⟩, hr⟩ := hq.cells
  simp only [qcells] at hr
  subst hr
  have hbx := below_box w5 (.cells #[.int .i64 rkd, .slice rod rld rcd, .int .i64 rxd, .int .i64 ryd, .string ⟨rzd.toArray⟩, .int .i64 0, .int .i64 0, .int .i64 0, .int .i64 0, .int .i64 0, .slice none 0 0, .string ⟨#[]⟩, .string ⟨#[]⟩, .bool false] 49)
  have hbb := hb3.trans (hbx.mono hb3.size)
  have hqd := hq.below hbx
  have Hd := Lib.hid (Blk.new w5 49 #[.int .i64 rkd, .slice rod rld rcd, .int .i64 rxd, .int .i64 ryd, .string ⟨rzd.toArray⟩, .int .i64 0, .int .i64 0, .int .i64 0, .int .i64 0, .int .i64 0, .slice none 0 0, .string ⟨#[]⟩, .string ⟨#[]⟩, .bool false])
  have HB5 := Lib.hid (HB4.out.trans (hbb.mono HB4.out.size))
  have Ha5 := Lib.hid (Ha4.out.below hbb Ha4.out.lt)
  have Hb5 := Lib.hid (Hb4.out.below hbb Hb4.out.lt)
  have Hc5 := Lib.hid (Hc.out.below hbb Hc.out.lt)
  have hqa := HQa4.out.below hbb
  have hqb := HQb4.out.below hbb
  have hqc := HQc.out.below hbb
  have HSAB := Lib.hid (fun wx (hx : Below (w5.alloc (.cells #[.int .i64 rkd, .slice rod rld rcd, .int .i64 rxd, .int .i64 ryd, .string ⟨rzd.toArray⟩, .int .i64 0, .int .i64 0, .int .i64 0, .int .i64 0, .int .i64 0, .slice none 0 0, .string ⟨#[]⟩, .string ⟨#[]⟩, .bool false] 49)).heap.size (w5.alloc (.cells #[.int .i64 rkd, .slice rod rld rcd, .int .i64 rxd, .int .i64 ryd, .string ⟨rzd.toArray⟩, .int .i64 0, .int .i64 0, .int .i64 0, .int .i64 0, .int .i64 0, .slice none 0 0, .string ⟨#[]⟩, .string ⟨#[]⟩, .bool false] 49)) wx) => same_pair (hqa.below hx) (hqb.below hx))
  have HSCD := Lib.hid (fun wx (hx : Below (w5.alloc (.cells #[.int .i64 rkd, .slice rod rld rcd, .int .i64 rxd, .int .i64 ryd, .string ⟨rzd.toArray⟩, .int .i64 0, .int .i64 0, .int .i64 0, .int .i64 0, .int .i64 0, .slice none 0 0, .string ⟨#[]⟩, .string ⟨#[]⟩, .bool false] 49)).heap.size (w5.alloc (.cells #[.int .i64 rkd, .slice rod rld rcd, .int .i64 rxd, .int .i64 ryd, .string ⟨rzd.toArray⟩, .int .i64 0, .int .i64 0, .int .i64 0, .int .i64 0, .int .i64 0, .slice none 0 0, .string ⟨#[]⟩, .string ⟨#[]⟩, .bool false] 49)) wx) => same_pair (hqc.below hx) (hqd.below hx))
  clear hq hb3 hbx hbb hqd hqa hqb hqc HRP HB4 Ha4 Hb4 Hc HQa4 HQb4 HQc
  go_upto_region 5 with fail
  generalize w5.heap.size = gd at *
  generalize World.alloc w5 _ = wd at *
  have ca0 : wd.cell? ⟨ga, 0, none⟩ = some (.int .i64 rka) := (Ha5.out).cell 0
  have fca0 := (Ha5.out).frozen 0
  have ca1 : wd.cell? ⟨ga, 1, none⟩ = some (.slice roa rla rca) := (Ha5.out).cell 1
  have fca1 := (Ha5.out).frozen 1
  have ca2 : wd.cell? ⟨ga, 2, none⟩ = some (.int .i64 rxa) := (Ha5.out).cell 2
  have fca2 := (Ha5.out).frozen 2
  have ca3 : wd.cell? ⟨ga, 3, none⟩ = some (.int .i64 rya) := (Ha5.out).cell 3
  have fca3 := (Ha5.out).frozen 3
  have ca4 : wd.cell? ⟨ga, 4, none⟩ = some (.string ⟨rza.toArray⟩) := (Ha5.out).cell 4
  have fca4 := (Ha5.out).frozen 4
  have ca5 : wd.cell? ⟨ga, 5, none⟩ = some (.int .i64 0) := (Ha5.out).cell 5
  have fca5 := (Ha5.out).frozen 5
  have ca6 : wd.cell? ⟨ga, 6, none⟩ = some (.int .i64 0) := (Ha5.out).cell 6
  have fca6 := (Ha5.out).frozen 6
  have ca7 : wd.cell? ⟨ga, 7, none⟩ = some (.int .i64 0) := (Ha5.out).cell 7
  have fca7 := (Ha5.out).frozen 7
  have ca8 : wd.cell? ⟨ga, 8, none⟩ = some (.int .i64 0) := (Ha5.out).cell 8
  have fca8 := (Ha5.out).frozen 8
  have ca9 : wd.cell? ⟨ga, 9, none⟩ = some (.int .i64 0) := (Ha5.out).cell 9
  have fca9 := (Ha5.out).frozen 9
  have ca10 : wd.cell? ⟨ga, 10, none⟩ = some (.slice none 0 0) := (Ha5.out).cell 10
  have fca10 := (Ha5.out).frozen 10
  have ca11 : wd.cell? ⟨ga, 11, none⟩ = some (.string ⟨#[]⟩) := (Ha5.out).cell 11
  have fca11 := (Ha5.out).frozen 11
  have ca12 : wd.cell? ⟨ga, 12, none⟩ = some (.string ⟨#[]⟩) := (Ha5.out).cell 12
  have fca12 := (Ha5.out).frozen 12
  have ca13 : wd.cell? ⟨ga, 13, none⟩ = some (.bool false) := (Ha5.out).cell 13
  have fca13 := (Ha5.out).frozen 13
  have lca := (Ha5.out).lt
  have cb0 : wd.cell? ⟨gb, 0, none⟩ = some (.int .i64 rkb) := (Hb5.out).cell 0
  have fcb0 := (Hb5.out).frozen 0
  have cb1 : wd.cell? ⟨gb, 1, none⟩ = some (.slice rob rlb rcb) := (Hb5.out).cell 1
  have fcb1 := (Hb5.out).frozen 1
  have cb2 : wd.cell? ⟨gb, 2, none⟩ = some (.int .i64 rxb) := (Hb5.out).cell 2
  have fcb2 := (Hb5.out).frozen 2
  have cb3 : wd.cell? ⟨gb, 3, none⟩ = some (.int .i64 ryb) := (Hb5.out).cell 3
  have fcb3 := (Hb5.out).frozen 3
  have cb4 : wd.cell? ⟨gb, 4, none⟩ = some (.string ⟨rzb.toArray⟩) := (Hb5.out).cell 4
  have fcb4 := (Hb5.out).frozen 4
  have cb5 : wd.cell? ⟨gb, 5, none⟩ = some (.int .i64 0) := (Hb5.out).cell 5
  have fcb5 := (Hb5.out).frozen 5
  have cb6 : wd.cell? ⟨gb, 6, none⟩ = some (.int .i64 0) := (Hb5.out).cell 6
  have fcb6 := (Hb5.out).frozen 6
  have cb7 : wd.cell? ⟨gb, 7, none⟩ = some (.int .i64 0) := (Hb5.out).cell 7
  have fcb7 := (Hb5.out).frozen 7
  have cb8 : wd.cell? ⟨gb, 8, none⟩ = some (.int .i64 0) := (Hb5.out).cell 8
  have fcb8 := (Hb5.out).frozen 8
  have cb9 : wd.cell? ⟨gb, 9, none⟩ = some (.int .i64 0) := (Hb5.out).cell 9
  have fcb9 := (Hb5.out).frozen 9
  have cb10 : wd.cell? ⟨gb, 10, none⟩ = some (.slice none 0 0) := (Hb5.out).cell 10
  have fcb10 := (Hb5.out).frozen 10
  have cb11 : wd.cell? ⟨gb, 11, none⟩ = some (.string ⟨#[]⟩) := (Hb5.out).cell 11
  have fcb11 := (Hb5.out).frozen 11
  have cb12 : wd.cell? ⟨gb, 12, none⟩ = some (.string ⟨#[]⟩) := (Hb5.out).cell 12
  have fcb12 := (Hb5.out).frozen 12
  have cb13 : wd.cell? ⟨gb, 13, none⟩ = some (.bool false) := (Hb5.out).cell 13
  have fcb13 := (Hb5.out).frozen 13
  have lcb := (Hb5.out).lt
  have cc0 : wd.cell? ⟨gc, 0, none⟩ = some (.int .i64 rkc) := (Hc5.out).cell 0
  have fcc0 := (Hc5.out).frozen 0
  have cc1 : wd.cell? ⟨gc, 1, none⟩ = some (.slice roc rlc rcc) := (Hc5.out).cell 1
  have fcc1 := (Hc5.out).frozen 1
  have cc2 : wd.cell? ⟨gc, 2, none⟩ = some (.int .i64 rxc) := (Hc5.out).cell 2
  have fcc2 := (Hc5.out).frozen 2
  have cc3 : wd.cell? ⟨gc, 3, none⟩ = some (.int .i64 ryc) := (Hc5.out).cell 3
  have fcc3 := (Hc5.out).frozen 3
  have cc4 : wd.cell? ⟨gc, 4, none⟩ = some (.string ⟨rzc.toArray⟩) := (Hc5.out).cell 4
  have fcc4 := (Hc5.out).frozen 4
  have cc5 : wd.cell? ⟨gc, 5, none⟩ = some (.int .i64 0) := (Hc5.out).cell 5
  have fcc5 := (Hc5.out).frozen 5
  have cc6 : wd.cell? ⟨gc, 6, none⟩ = some (.int .i64 0) := (Hc5.out).cell 6
  have fcc6 := (Hc5.out).frozen 6
  have cc7 : wd.cell? ⟨gc, 7, none⟩ = some (.int .i64 0) := (Hc5.out).cell 7
  have fcc7 := (Hc5.out).frozen 7
  have cc8 : wd.cell? ⟨gc, 8, none⟩ = some (.int .i64 0) := (Hc5.out).cell 8
  have fcc8 := (Hc5.out).frozen 8
  have cc9 : wd.cell? ⟨gc, 9, none⟩ = some (.int .i64 0) := (Hc5.out).cell 9
  have fcc9 := (Hc5.out).frozen 9
  have cc10 : wd.cell? ⟨gc, 10, none⟩ = some (.slice none 0 0) := (Hc5.out).cell 10
  have fcc10 := (Hc5.out).frozen 10
  have cc11 : wd.cell? ⟨gc, 11, none⟩ = some (.string ⟨#[]⟩) := (Hc5.out).cell 11
  have fcc11 := (Hc5.out).frozen 11
  have cc12 : wd.cell? ⟨gc, 12, none⟩ = some (.string ⟨#[]⟩) := (Hc5.out).cell 12
  have fcc12 := (Hc5.out).frozen 12
  have cc13 : wd.cell? ⟨gc, 13, none⟩ = some (.bool false) := (Hc5.out).cell 13
  have fcc13 := (Hc5.out).frozen 13
  have lcc := (Hc5.out).lt
  have cd0 : wd.cell? ⟨gd, 0, none⟩ = some (.int .i64 rkd) := (Hd.out).cell 0
  have fcd0 := (Hd.out).frozen 0
  have cd1 : wd.cell? ⟨gd, 1, none⟩ = some (.slice rod rld rcd) := (Hd.out).cell 1
  have fcd1 := (Hd.out).frozen 1
  have cd2 : wd.cell? ⟨gd, 2, none⟩ = some (.int .i64 rxd) := (Hd.out).cell 2
  have fcd2 := (Hd.out).frozen 2
  have cd3 : wd.cell? ⟨gd, 3, none⟩ = some (.int .i64 ryd) := (Hd.out).cell 3
  have fcd3 := (Hd.out).frozen 3
  have cd4 : wd.cell? ⟨gd, 4, none⟩ = some (.string ⟨rzd.toArray⟩) := (Hd.out).cell 4
  have fcd4 := (Hd.out).frozen 4
  have cd5 : wd.cell? ⟨gd, 5, none⟩ = some (.int .i64 0) := (Hd.out).cell 5
  have fcd5 := (Hd.out).frozen 5
  have cd6 : wd.cell? ⟨gd, 6, none⟩ = some (.int .i64 0) := (Hd.out).cell 6
  have fcd6 := (Hd.out).frozen 6
  have cd7 : wd.cell? ⟨gd, 7, none⟩ = some (.int .i64 0) := (Hd.out).cell 7
  have fcd7 := (Hd.out).frozen 7
  have cd8 : wd.cell? ⟨gd, 8, none⟩ = some (.int .i64 0) := (Hd.out).cell 8
  have fcd8 := (Hd.out).frozen 8
  have cd9 : wd.cell? ⟨gd, 9, none⟩ = some (.int .i64 0) := (Hd.out).cell 9
  have fcd9 := (Hd.out).frozen 9
  have cd10 : wd.cell? ⟨gd, 10, none⟩ = some (.slice none 0 0) := (Hd.out).cell 10
  have fcd10 := (Hd.out).frozen 10
  have cd11 : wd.cell? ⟨gd, 11, none⟩ = some (.string ⟨#[]⟩) := (Hd.out).cell 11
  have fcd11 := (Hd.out).frozen 11
  have cd12 : wd.cell? ⟨gd, 12, none⟩ = some (.string ⟨#[]⟩) := (Hd.out).cell 12
  have fcd12 := (Hd.out).frozen 12
  have cd13 : wd.cell? ⟨gd, 13, none⟩ = some (.bool false) := (Hd.out).cell 13
  have fcd13 := (Hd.out).frozen 13
  have lcd := (Hd.out).lt
  have HAW := Lib.hid (fun wx => awakeC_any wx)
  have HP1 := Lib.hid (HSAB.out wd (Below.refl _ _))
  go_wp2_with fail
  ((with_reducible refine (HP1.out).mono ?_); rintro e w' ⟨rfl, hbw⟩)
  obtain ⟨m1, rfl⟩ := grow_mk hbw
  clear hbw
  have HP2 := Lib.hid (HSCD.out (grow wd m1) (grow_below m1))
  go_wp2_with fail
  ((with_reducible refine (HP2.out).mono ?_); rintro e w' ⟨rfl, hbw⟩)
  obtain ⟨m2, rfl⟩ := grow_mk hbw
  clear hbw
  have hb6 := grow_below (m1.trans m2)
  go_wp2_with fail
  ((with_reducible refine ((HAW.out _)).mono ?_); rintro e w' ⟨rfl, hbw⟩)
  obtain ⟨m3, rfl⟩ := grow_mk hbw
  clear hbw
  go_wp2_with fail
  go_ret
  exact ⟨ret_bool rfl, HB5.out.trans ((grow_below _).mono HB5.out.size)⟩

end Go.Proofs.Ytgjhaanpkfheeaa
