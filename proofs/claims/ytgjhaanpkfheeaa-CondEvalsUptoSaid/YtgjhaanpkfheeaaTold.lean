/- What each leaf comes to, told; a condition's truth, the reference's word. -/
import Derived.Test.YtgjhaanpkfheeaaLeaves
import Derived.Test.YtgjhaanpkfheeaaEvalW
namespace Go.Proofs.Ytgjhaanpkfheeaa
set_option linter.unusedVariables false
set_option linter.unusedSimpArgs false
open Go.RowKit

/-- the leaves of a condition that may be -/
def leavesM (h : Nat) (e : Cd) : List Lf := if mayC 340 e = true then leavesC h e else []

set_option maxRecDepth 20000 in
set_option maxHeartbeats 4000000 in
theorem rLeaves_any (h : Nat) (e : Cd) (w : World) (hx : CdIn w h e) (hbk : (leavesC h e).length ≤ 1048576) :
    Calls Try.prog 87 #[cv e] w fun x w' => (∃ (oa : Option Addr) (cap g : Nat), x = .returned (.slice oa (leavesM h e).length cap) ∧ (0 < (leavesM h e).length → oa = some ⟨g, 0, none⟩) ∧ w'.ownsRow w.heap.size 47 12 (.slice oa (leavesM h e).length cap) (leavesM h e).length ((leavesM h e).flatMap lcells)) ∧ Below w.heap.size w w' := by
  have hM := fun wx hb => rMayC_any h e wx (hx.below h (w' := wx) hb)
  have hE := fun wx hb hm => leaves_any h 340 e wx (hx.below h (w' := wx) hb) hm hbk
  unfold leavesM
  generalize leavesC h e = LV at *
  cases hm : mayC 340 e with
  | false =>
    rw [if_neg (by decide)]
    rw [hm] at hM
    obtain ⟨c, oa, b, o, cap, kids, ⟨lk, lt, nm, op, ⟨k', n, d, u, oa', b', o', cap', kids'⟩, wd, vl, an⟩⟩ := e
    simp only [cv_mk] at hM ⊢
    have HM := Lib.hid hM
    clear hM hE hm hx
    go_enter Try.func87, Try.ntmps87
    go_wp2_with fail
    ((with_reducible refine (HM.out _ (below_box _ _)).mono ?_); rintro e w' ⟨rfl, hbw⟩)
    obtain ⟨m, rfl⟩ := grow_mk hbw
    clear hbw
    go_wp2_with fail
    go_ret
    exact ⟨⟨none, 0, 0, rfl, fun h => absurd h (by decide), World.ownsRow_nil _ _ _ _⟩, below_grow (below_box _ _) m⟩
  | true =>
    rw [if_pos rfl]
    have hE2 := fun wx hb => hE wx hb hm
    rw [hm] at hM
    obtain ⟨c, oa, b, o, cap, kids, ⟨lk, lt, nm, op, ⟨k', n, d, u, oa', b', o', cap', kids'⟩, wd, vl, an⟩⟩ := e
    simp only [cv_mk] at hM hE2 ⊢
    have HM := Lib.hid hM
    have HE := Lib.hid hE2
    clear hM hE hE2 hm hx
    have hb : Below w.heap.size w (w.alloc (.cells #[.int .i64 c, .slice oa kids.length cap, .int .i64 lk, .int .i64 lt, .string nm, .int .i64 op, .int .i64 k', .int .i64 n, .int .i64 d, .int .i64 u, .slice oa' kids'.length cap', .string wd, .string vl, .bool an] 49)) := below_box _ _
    go_enter Try.func87, Try.ntmps87
    go_wp2_with fail
    ((with_reducible refine (HM.out _ (below_box _ _)).mono ?_); rintro e w' ⟨rfl, hbw⟩)
    obtain ⟨m, rfl⟩ := grow_mk hbw
    clear hbw
    replace hb := below_grow hb m
    go_wp2_with fail
    ((with_reducible refine (HE.out _ hb).mono ?_); rintro e w' ⟨⟨gs, cs3, rfl, hso⟩, hbw⟩)
    have HO := Lib.hid (And.intro hb (And.intro hso hbw))
    clear hso hbw hb
    go_wp2_with fail
    go_ret
    obtain ⟨hb, hso, hbw⟩ := HO.out
    exact ⟨⟨_, _, gs, rfl, fun _ => rfl, owns_base hso hb.size⟩, hb.trans (hbw.mono hb.size)⟩

set_option maxRecDepth 20000 in
set_option maxHeartbeats 4000000 in
theorem rEval_any (g : Lf → Int) (h : Nat) (e : Cd) (t : List Int) (w : World) (toa : Option Addr) (tlen tcap tb tf : Nat) (hx : CdIn w h e) (hI : Ints w toa tlen tcap tb tf t) (hT : mayC 340 e = true → Told g (leavesC h e) t []) :
    Calls Try.prog 45 #[cv e, .slice toa tlen tcap] w fun x w' => x = .returned (.int .i64 (evalM g h e)) ∧ Below w.heap.size w w' := by
  have hM := fun wx hb => rMayC_any h e wx (hx.below h (w' := wx) hb)
  have hE := fun wx hb hm => reval_any g w h 340 e t [] wx toa tlen tcap tb tf hb (hx.below h (w' := wx) hb) hm (fun wx hb => hI.below hb) (hT hm)
  unfold evalM
  generalize evalC g h e = R at *
  cases hm : mayC 340 e with
  | false =>
    rw [if_neg (by decide)]
    rw [hm] at hM
    obtain ⟨c, oa, b, o, cap, kids, ⟨lk, lt, nm, op, ⟨k', n, d, u, oa', b', o', cap', kids'⟩, wd, vl, an⟩⟩ := e
    simp only [cv_mk] at hM ⊢
    have HM := Lib.hid hM
    clear hM hE hm hx hT hI
    go_enter Try.func45, Try.ntmps45
    go_wp2_with fail
    ((with_reducible refine (HM.out _ (below_box _ _)).mono ?_); rintro e w' ⟨rfl, hbw⟩)
    obtain ⟨m, rfl⟩ := grow_mk hbw
    clear hbw
    go_wp2_with fail
    go_ret
    exact ⟨rfl, below_grow (below_box _ _) m⟩
  | true =>
    rw [if_pos rfl]
    have hE2 := fun wx hb => hE wx hb hm
    rw [hm] at hM
    obtain ⟨c, oa, b, o, cap, kids, ⟨lk, lt, nm, op, ⟨k', n, d, u, oa', b', o', cap', kids'⟩, wd, vl, an⟩⟩ := e
    simp only [cv_mk] at hM hE2 ⊢
    have HM := Lib.hid hM
    have HE := Lib.hid hE2
    clear hM hE hE2 hm hx hT hI
    have hb : Below w.heap.size w (w.alloc (.cells #[.int .i64 c, .slice oa kids.length cap, .int .i64 lk, .int .i64 lt, .string nm, .int .i64 op, .int .i64 k', .int .i64 n, .int .i64 d, .int .i64 u, .slice oa' kids'.length cap', .string wd, .string vl, .bool an] 49)) := below_box _ _
    go_enter Try.func45, Try.ntmps45
    go_wp2_with fail
    ((with_reducible refine (HM.out _ (below_box _ _)).mono ?_); rintro e w' ⟨rfl, hbw⟩)
    obtain ⟨m, rfl⟩ := grow_mk hbw
    clear hbw
    replace hb := below_grow hb m
    go_wp2_with fail
    ((with_reducible refine (HE.out _ hb).mono ?_); rintro e w' ⟨⟨oa3, len3, cap3, b3, o3, rfl, _⟩, hbw⟩)
    have HO := Lib.hid (And.intro hb hbw)
    clear hbw hb
    go_wp2_with fail
    go_ret
    obtain ⟨hb, hbw⟩ := HO.out
    exact ⟨rfl, hb.trans (hbw.mono hb.size)⟩

set_option maxRecDepth 20000 in
set_option maxHeartbeats 8000000 in
theorem told_any (gN gT : Nat) (eoa : Option Addr) (elen ecap eb eo : Nat) (ns : List ByteArray) (toa : Option Addr) (tlen tcap tb tf : Nat) (ts : List Int) (h : Nat) (e : Cd) (w : World) (hx : CdIn w h e) (hbk : (leavesC h e).length ≤ 1048576) (hEnv : Env w gN gT eoa elen ecap eb eo ns toa tlen tcap tb tf ts) :
    Calls Try.prog 46 #[cv e, .func (.func 83) #[] #[.pointer (some ⟨gN, 0, none⟩), .pointer (some ⟨gT, 0, none⟩)]] w fun x w' => (∃ (oa : Option Addr) (cap : Nat), x = .returned (.slice oa ((leavesM h e).map fun lf => byF ns ts lf.name).length cap) ∧ w'.ownsRow w.heap.size 3 1 (.slice oa ((leavesM h e).map fun lf => byF ns ts lf.name).length cap) ((leavesM h e).map fun lf => byF ns ts lf.name).length (((leavesM h e).map fun lf => byF ns ts lf.name).map (Value.int .i64))) ∧ Below w.heap.size w w' := by
  have hL := fun wx hb => rLeaves_any h e wx (hx.below h (w' := wx) hb) hbk
  have hlen : (leavesM h e).length ≤ 1048576 := by
    unfold leavesM
    split
    · exact hbk
    · simp
  generalize leavesM h e = LV at *
  obtain ⟨l, hl⟩ : ∃ l, (LV.map fun (lf : Lf) => byF ns ts lf.name) = l := ⟨_, rfl⟩
  rw [hl]
  have hll : l.length = LV.length := by rw [← hl]; simp
  have HLG := Lib.hid (show ∀ (i : Nat) (lf : Lf), LV[i]? = some lf → l[i]? = some (byF ns ts lf.name) from fun i lf h => by rw [← hl, List.getElem?_map, h]; rfl)
  have HEnv := Lib.hid (fun wx (hb : Below w.heap.size w wx) => hEnv.below hb)
  clear hl hEnv hbk hx
  obtain ⟨c, oa, b, o, cap, kids, ⟨lk, lt, nm, op, ⟨k', n, d, u, oa', b', o', cap', kids'⟩, wd, vl, an⟩⟩ := e
  simp only [cv_mk, ← hll] at hL ⊢
  have HL := Lib.hid hL
  clear hL
  obtain ⟨i0, hi0, hz0, hz1, hz2⟩ := info_parts infoInt
  have hs1 : LV.length ≤ 9223372036854775807 := by omega
  have hb : Below w.heap.size w (w.alloc (.cells #[.int .i64 c, .slice oa kids.length cap, .int .i64 lk, .int .i64 lt, .string nm, .int .i64 op, .int .i64 k', .int .i64 n, .int .i64 d, .int .i64 u, .slice oa' kids'.length cap', .string wd, .string vl, .bool an] 49)) := below_box _ _
  go_enter Try.func46, Try.ntmps46
  go_wp2_with fail
  ((with_reducible refine (HL.out _ hb).mono ?_); rintro e wL ⟨⟨loa, lcap, lg, rfl, hlo, hso⟩, hbw⟩)
  have hbL := hb.trans (hbw.mono hb.size)
  have HO := Lib.hid (And.intro hso hbL)
  have HLo := Lib.hid hlo
  clear hso hbw hb hbL hlo HL
  go_wp2_with fail
  go_loopg [5, 11] l.length (fun kk s t wr => ∃ (i : Nat) (v : Value), v = s ∧ t = .int .i64 i ∧ Hid (Below wL.heap.size wL wr ∧ wr.ownsRow wL.heap.size 3 1 v i ((l.take i).map (Value.int .i64))) ∧ i ≤ l.length ∧ l.length - i ≤ kk)
  case atStart => exact ⟨0, .slice none 0 0, rfl, rfl, Lib.hid ⟨Below.refl _ _, World.ownsRow_nil _ _ _ _⟩, Nat.zero_le _, by omega⟩
  case round =>
    obtain ⟨i, v, rfl, rfl, hg, hle, hk2⟩ := hrel
    by_cases hi : i < l.length
    · have gi : decide ((i : Int) < l.length) = true := by simpa using hi
      have hr : LV[i]? = some (LV[i]'(by omega)) := List.getElem?_eq_getElem (by omega)
      have hlt := HLG.out i _ hr
      have hat := HLo.out (by omega)
      obtain ⟨hso, hbL⟩ := HO.out
      subst hat
      have hcell := hso.cells (g := lg) rfl
      have hra := rows_at hr
      have hlgl : lg < wL.heap.size := (hso.lt lg rfl).2
      generalize LV[i]'(by omega) = lf at *
      have hcl : ∀ j v, (lcells lf)[j]? = some v → wL.cell? ⟨lg, i * 12 + j, none⟩ = some v := fun j v hj => by
        have := hcell (i * 12 + j) v (hra j v hj)
        rwa [Addr.add_lit, Nat.zero_add] at this
      obtain ⟨lk, lt, nm, op, ⟨k', n, d, u, oa', b', o', cap', kids'⟩, wd, vl, an⟩ := lf
      try simp only at hlt
      have f0 : wr.cell? ⟨lg, i * 12, none⟩ = some (.int .i64 lk) := (hg.out.1.cell hlgl).trans (hcl 0 _ rfl)
      have f1 : wr.cell? ⟨lg, i * 12 + 1, none⟩ = some (.int .i64 lt) := (hg.out.1.cell hlgl).trans (hcl 1 _ rfl)
      have f2 : wr.cell? ⟨lg, i * 12 + 2, none⟩ = some (.string nm) := (hg.out.1.cell hlgl).trans (hcl 2 _ rfl)
      have f3 : wr.cell? ⟨lg, i * 12 + 3, none⟩ = some (.int .i64 op) := (hg.out.1.cell hlgl).trans (hcl 3 _ rfl)
      have f4 : wr.cell? ⟨lg, i * 12 + 4, none⟩ = some (.int .i64 k') := (hg.out.1.cell hlgl).trans (hcl 4 _ rfl)
      have f5 : wr.cell? ⟨lg, i * 12 + 5, none⟩ = some (.int .i64 n) := (hg.out.1.cell hlgl).trans (hcl 5 _ rfl)
      have f6 : wr.cell? ⟨lg, i * 12 + 6, none⟩ = some (.int .i64 d) := (hg.out.1.cell hlgl).trans (hcl 6 _ rfl)
      have f7 : wr.cell? ⟨lg, i * 12 + 7, none⟩ = some (.int .i64 u) := (hg.out.1.cell hlgl).trans (hcl 7 _ rfl)
      have f8 : wr.cell? ⟨lg, i * 12 + 8, none⟩ = some (.slice oa' kids'.length cap') := (hg.out.1.cell hlgl).trans (hcl 8 _ rfl)
      have f9 : wr.cell? ⟨lg, i * 12 + 9, none⟩ = some (.string wd) := (hg.out.1.cell hlgl).trans (hcl 9 _ rfl)
      have f10 : wr.cell? ⟨lg, i * 12 + 10, none⟩ = some (.string vl) := (hg.out.1.cell hlgl).trans (hcl 10 _ rfl)
      have f11 : wr.cell? ⟨lg, i * 12 + 11, none⟩ = some (.bool an) := (hg.out.1.cell hlgl).trans (hcl 11 _ rfl)
      have hwb := hg.out.1
      have hbr := hbL.trans (hwb.mono hbL.size)
      have hBY := fun wx (hb2 : Below w.heap.size w wx) => by_any gN gT eoa elen ecap eb eo ns toa tlen tcap tb tf ts lk lt nm op k' n d u oa' kids'.length cap' wd vl an wx (HEnv.out wx hb2)
      have HBY := Lib.hid hBY
      clear hBY hcl hcell hra hr hso
      generalize byF ns ts nm = M at *
      generalize kids'.length = L' at *
      have hbv := hwb.alloc hwb.size (.cells #[.int .i64 lk, .int .i64 lt, .string nm, .int .i64 op, .int .i64 k', .int .i64 n, .int .i64 d, .int .i64 u, .slice oa' L' cap', .string wd, .string vl, .bool an] 47)
      have hbw2 := hbr.alloc hbr.size (.cells #[.int .i64 lk, .int .i64 lt, .string nm, .int .i64 op, .int .i64 k', .int .i64 n, .int .i64 d, .int .i64 u, .slice oa' L' cap', .string wd, .string vl, .bool an] 47)
      have hov := hg.out.2.alloc (.cells #[.int .i64 lk, .int .i64 lt, .string nm, .int .i64 op, .int .i64 k', .int .i64 n, .int .i64 d, .int .i64 u, .slice oa' L' cap', .string wd, .string vl, .bool an] 47)
      have hvb := hg.out.2.lt
      have hin : i + 1 ≤ maxLen := by unfold maxLen; omega
      have hib : (i + 1) * 8 ≤ 140737488355328 := by omega
      have HVR := Lib.hid (show ∀ k, v.ownBlock = some k → wL.heap.size ≤ k from fun k e => (hvb _ e).1)
      have hsw := hwb.size
      have HT := Lib.hid hlt
      clear hvb hlt hg hwb hbr
      go_wp2_with fail
      ((with_reducible refine (HBY.out _ hbw2).mono ?_); rintro e w' ⟨rfl, hbw⟩)
      obtain ⟨m, rfl⟩ := grow_mk hbw
      clear hbw
      replace hbv := below_grow hbv m
      replace hov := owns_below hov (grow_below m)
      have hsz := hbv.size
      clear hbw2
      generalize grow _ m = wq at *
      clear f0 f1 f2 f3 f4 f5 f6 f7 f8 f9 f10 f11
      go_wp2_with (at_builtin; refine wpList_append_lies _ rfl _ _ _ rfl wL.heap.size 3 i0 _ 1 8 Try.underlying36 hi0 hz0 hz1 hz2 rfl (by omega) v i ((l.take i).map (Value.int .i64)) rfl (hov.alloc _) ⟨wq.heap.size, 0, none⟩ 1 1 [.int .i64 M] rfl rfl (World.news_of_block (cs := #[.int .i64 M]) (t := 3) (fr := (0, 0)) (heap_alloc_new wq _)) (by simp [Value.oneCell']) (by omega) hin hib (by simp; omega) (wq.heap.size + 1) (by simp) ?_; intro gg capq w1 hown1 hgrow hat hlt; have HR1 := Lib.hid (And.intro (below_grownBy (hbv.alloc hbv.size _) hgrow (Nat.le_trans hbv.size (by simp)) HVR.out) hown1); clear hown1 hgrow hat)
      go_roundg (l.length - (i + 1))
      case measure => omega
      case rel =>
        obtain ⟨r2, r3⟩ := HR1.out
        exact ⟨i + 1, _, rfl, by go_num, Lib.hid ⟨r2, by rw [List.take_add_one, HT.out, List.map_append]; exact r3⟩, hi, by omega⟩
    · obtain rfl : i = l.length := by omega
      obtain ⟨hwb, hown⟩ := hg.out
      rw [List.take_of_length_le (Nat.le_refl _)] at hown
      obtain ⟨hso, hbL⟩ := HO.out
      obtain ⟨voa, vc, rfl⟩ : ∃ voa vc, v = .slice voa l.length vc := by
        rcases hown.2 with ⟨rfl, h0⟩ | ⟨g, cp, cur, rfl, _⟩
        · exact ⟨none, 0, by rw [h0]⟩
        · exact ⟨_, _, rfl⟩
      have HF := Lib.hid (And.intro (owns_base hown hbL.size) (hbL.trans (hwb.mono hbL.size)))
      clear hwb hown hso hbL hg HLG HEnv HO
      go_wp2_with fail
      go_ret
      exact ⟨⟨_, _, rfl, HF.out.1⟩, HF.out.2⟩

end Go.Proofs.Ytgjhaanpkfheeaa
