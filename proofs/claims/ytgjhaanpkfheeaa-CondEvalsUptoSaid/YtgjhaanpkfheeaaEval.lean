/- What a condition comes to: the program's word. -/
import Derived.Test.YtgjhaanpkfheeaaBy
import Derived.WideLaws
namespace Go.Proofs.Ytgjhaanpkfheeaa
set_option linter.unusedVariables false
set_option linter.unusedSimpArgs false
open Go.RowKit

theorem func_nil0 (f : Fn) (a c : Array Value) (w : World) (d : Nat) : (Op.equalIn (d + 1) 51 (.func f a c) .nilFunc).run Try.prog w = .ok false w := by
  simp [Op.equalIn, run_underlying Try.underlying51]
theorem nil_nil0 (w : World) (d : Nat) : (Op.equalIn (d + 1) 51 .nilFunc .nilFunc).run Try.prog w = .ok true w := by
  simp [Op.equalIn, run_underlying Try.underlying51]
@[go_sem] theorem func_nil (f : Fn) (a c : Array Value) (w : World) : Sem.run Try.prog (binOp .eql 51 (.func f a c) .nilFunc) w = .ok (.bool false) w := by
  have h2 : (Op.equal 51 (.func f a c) .nilFunc).run Try.prog w = .ok false w := func_nil0 f a c w 9999
  simp only [binOp]
  simp [h2]
@[go_sem] theorem nil_nil (w : World) : Sem.run Try.prog (binOp .eql 51 .nilFunc .nilFunc) w = .ok (.bool true) w := by
  have h2 : (Op.equal 51 .nilFunc .nilFunc).run Try.prog w = .ok true w := nil_nil0 w 9999
  simp only [binOp]
  simp [h2]

theorem infoInt : (Try.prog.info? 3).map (fun i => (i.zero, i.size, i.bytes)) = some (some (.int .i64 0), 1, 8) := by kernel_rfl

/-- a row of numbers that the call made is a slice of numbers -/
theorem ints_of_own {w : World} {base : Nat} {v : Value} {n : Nat} {l : List Int} (h : w.ownsRow base 3 1 v n (l.map (Value.int .i64))) (h64 : ∀ x ∈ l, I64 x) :
    ∃ (oa : Option Addr) (cap g : Nat), v = .slice oa n cap ∧ Ints w oa n cap g 0 l := by
  have hn : n = l.length := by have := h.1; simpa using this.symm
  have is64 : ∀ (i : Nat) (x : Int), l[i]? = some x → -9223372036854775808 ≤ x ∧ x ≤ 9223372036854775807 := fun i x hx => h64 x (List.mem_of_getElem? hx)
  rcases h.2 with ⟨rfl, h0⟩ | ⟨g, cap, cur, rfl, hg, hc, h1, h2, h3, h4⟩
  · refine ⟨none, 0, 0, by rw [h0], hn, by omega, Nat.zero_le _, fun hp => by omega, fun hp => by omega, fun i x hx => ?_, is64⟩
    have := (List.getElem?_eq_some_iff.1 hx).1
    omega
  · refine ⟨some ⟨g, 0, none⟩, cap, g, rfl, hn, h1, h2, fun _ => rfl, fun _ => (Array.getElem?_eq_some_iff.1 hc).1, fun i x hx => ?_, is64⟩
    rw [Nat.zero_add, cell_of_row w g i cur 3 (0, 0) hc]
    have hi := (List.getElem?_eq_some_iff.1 hx).1
    have e : (cur.toList.take (n * 1))[i]? = some (.int .i64 x) := by rw [h4, List.getElem?_map, hx]; rfl
    rw [List.getElem?_take] at e
    split at e
    · simpa using e
    · cases e

theorem andG_three : ∀ (l : List Int) (m : Int), (m = 0 ∨ m = 1 ∨ m = 2) → andG m l = 0 ∨ andG m l = 1 ∨ andG m l = 2
  | [], _, h => h
  | x :: l, m, h => andG_three l _ (and_step h (tr_three x))
theorem orG_three : ∀ (l : List Int) (m : Int), (m = 0 ∨ m = 1 ∨ m = 2) → orG m l = 0 ∨ orG m l = 1 ∨ orG m l = 2
  | [], _, h => h
  | x :: l, m, h => orG_three l _ (or_step h (tr_three x))

theorem evalC_leaf (g : Lf → Int) (h : Nat) (oa : Option Addr) (b o cap : Nat) (kids : List Cd) (lf : Lf) : evalC g (h + 1) (.mk 4 oa b o cap kids lf) = if lf.kind = 1 then lf.truth else if lf.kind = 0 then 1 else tr (g lf) := by
  unfold evalC
  rw [if_pos rfl]
theorem evalC_more (g : Lf → Int) (h : Nat) {c : Int} (hc : ¬ c = 4) (oa : Option Addr) (b o cap : Nat) (kids : List Cd) (lf : Lf) : evalC g (h + 1) (.mk c oa b o cap kids lf) =
    if c = 1 then andG 2 (kids.map (evalC g h)) else if c = 2 then orG 0 (kids.map (evalC g h)) else 2 - tr ((kids.map (evalC g h)).headD 1) := by
  unfold evalC
  rw [if_neg hc]

theorem mayC_parts {f : Nat} {c : Int} {oa : Option Addr} {b o cap : Nat} {kids : List Cd} {lf : Lf} (hc : ¬ c = 4) (h : mayC f (.mk c oa b o cap kids lf) = true) :
    (c = 1 ∨ c = 2 ∨ c = 3 ∧ kids.length = 1) ∧ ∃ f', ∀ (i : Nat) (x : Cd), kids[i]? = some x → mayC f' x = true := by
  cases f with
  | zero => cases h
  | succ f =>
    rw [mayC_more f hc] at h
    simp only [Bool.and_eq_true] at h
    refine ⟨?_, f, fun i x hx => List.all_eq_true.1 h.2 x (List.mem_of_getElem? hx)⟩
    by_cases c1 : c = 1 ∨ c = 2
    · omega
    by_cases c3 : c = 3
    · rw [carity_one c3] at h
      have := h.1.2
      simp only [beq_iff_eq] at this
      omega
    · rw [carity_none c1 c3] at h
      cases h.1.2
theorem mayC_truth {f : Nat} {oa : Option Addr} {b o cap : Nat} {kids : List Cd} {lf : Lf} (h : mayC f (.mk 4 oa b o cap kids lf) = true) (hk : lf.kind = 1) : 0 ≤ lf.truth ∧ lf.truth ≤ 2 := by
  cases f with
  | zero => cases h
  | succ f =>
    rw [mayC_leaf] at h
    unfold leafB at h
    rw [if_neg (by omega), if_pos hk] at h
    simp only [Bool.and_eq_true, decide_eq_true_eq] at h
    exact h.2.1

theorem evalC_three (g : Lf → Int) : ∀ (h f : Nat) (e : Cd), mayC f e = true → evalC g h e = 0 ∨ evalC g h e = 1 ∨ evalC g h e = 2
  | 0, _, _, _ => Or.inr (Or.inl rfl)
  | h + 1, f, .mk c oa b o cap kids lf, hm => by
    by_cases hc : c = 4
    · subst hc
      rw [evalC_leaf]
      split
      · have := mayC_truth hm (by assumption)
        omega
      · split
        · exact Or.inr (Or.inl rfl)
        · exact tr_three _
    · rw [evalC_more _ _ hc]
      split
      · exact andG_three _ _ (by omega)
      · split
        · exact orG_three _ _ (by omega)
        · have := tr_three ((kids.map (evalC g h)).headD 1)
          omega

/-- where the loop over the kids stands -/
structure Gl (w wr : World) (tx : TypeId) (cs : Array Value) (v : Value) (i : Nat) (l : List Int) : Prop where
  below : Below w.heap.size w wr
  box : Blk wr w.heap.size tx cs
  own : wr.ownsRow (w.heap.size + 1) 3 1 v i ((l.take i).map (Value.int .i64))

theorem byF_64 : ∀ {ns : List ByteArray} {ts : List Int}, (∀ (i : Nat) (x : Int), ts[i]? = some x → -9223372036854775808 ≤ x ∧ x ≤ 9223372036854775807) → ∀ x : ByteArray, -9223372036854775808 ≤ byF ns ts x ∧ byF ns ts x ≤ 9223372036854775807
  | [], _, _, _ => by simp [byF]
  | _ :: _, [], _, _ => by simp [byF]
  | n :: ns, t :: ts, h, x => by
    unfold byF
    split
    · exact h 0 t rfl
    · exact byF_64 (fun i y hy => h (i + 1) y (by simpa using hy)) x

set_option maxRecDepth 20000 in
set_option maxHeartbeats 8000000 in
theorem eval_by (gN gT : Nat) (eoa : Option Addr) (elen ecap eb eo : Nat) (ns : List ByteArray) (toa : Option Addr) (tlen tcap tb tf : Nat) (ts : List Int) : ∀ (h f : Nat) (e : Cd) (w : World), CdIn w h e → mayC f e = true → Env w gN gT eoa elen ecap eb eo ns toa tlen tcap tb tf ts →
    Calls Try.prog 84 #[cv e, .func (.func 83) #[] #[.pointer (some ⟨gN, 0, none⟩), .pointer (some ⟨gT, 0, none⟩)]] w fun x w' => x = .returned (.int .i64 (evalC (fun lf => byF ns ts lf.name) h e)) ∧ Below w.heap.size w w' := by
  intro h
  induction h with
  | zero => exact fun _ _ _ h => h.elim
  | succ h ih =>
    intro f e w hx hm hEnv
    obtain ⟨c, oa, b, o, cap, kids, lf⟩ := e
    obtain ⟨h1, h2, h4, h5, h6, h7, h8⟩ := hx
    have hsm : kids.length ≤ 9223372036854775807 := Nat.le_trans (Nat.le_trans h4 h5) (by decide)
    have hmax : kids.length ≤ maxLen := Nat.le_trans h4 h5
    have HIH := Lib.hid ih
    clear ih
    by_cases hk : c = 4
    · subst hk
      rw [evalC_leaf]
      have ht := mayC_truth hm
      clear hm h7 h8 HIH
      obtain ⟨lk, lt, nm, op, ex, wd, vl, an⟩ := lf
      simp only at *
      have hE := fun wx hb => expr_any h ex wx (h2.2.2.2.below h (w' := wx) hb)
      obtain ⟨k', n, d, u, oa', b', o', cap', kids'⟩ := ex
      simp only [xv_mk] at hE
      rw [cv_mk]
      have HX := Lib.hid hE
      clear hE h2 h1 ht
      by_cases l1 : lk = 1
      · subst l1
        rw [if_pos rfl]
        go_enter Try.func84, Try.ntmps84
        go_wp2_with fail
        go_ret
        exact ⟨rfl, (below_box _ _).alloc (by simp) _⟩
      · rw [if_neg l1]
        have g1 : (lk == 1) = false := by simpa using l1
        by_cases l0 : lk = 0
        · subst l0
          rw [if_pos rfl]
          go_enter Try.func84, Try.ntmps84
          go_wp2_with fail
          go_ret
          exact ⟨rfl, (below_box _ _).alloc (by simp) _⟩
        · rw [if_neg l0]
          have g0 : (lk == 0) = false := by simpa using l0
          have HB := Lib.hid (fun wx hb (yk yn yd yu : Int) (ya : Option Addr) (yl yc : Nat) => by_any gN gT eoa elen ecap eb eo ns toa tlen tcap tb tf ts lk lt nm op yk yn yd yu ya yl yc wd vl an wx (hEnv.below (w' := wx) hb))
          have HT := Lib.hid (fun wx => truth_any (byF ns ts nm) wx (byF_64 hEnv.truths.is64 nm).1 (byF_64 hEnv.truths.is64 nm).2)
          clear hEnv
          generalize byF ns ts nm = R at *
          generalize tr R = TR at *
          have hb1 : Below w.heap.size w ((w.alloc (.cells #[.int .i64 4, .slice oa kids.length cap, .int .i64 lk, .int .i64 lt, .string nm, .int .i64 op, .int .i64 k', .int .i64 n, .int .i64 d, .int .i64 u, .slice oa' kids'.length cap', .string wd, .string vl, .bool an] 49)).alloc (.cells #[.int .i64 lk, .int .i64 lt, .string nm, .int .i64 op, .int .i64 k', .int .i64 n, .int .i64 d, .int .i64 u, .slice oa' kids'.length cap', .string wd, .string vl, .bool an] 47)) := (below_box _ _).alloc (by simp) _
          have hb2 : Blk ((w.alloc (.cells #[.int .i64 4, .slice oa kids.length cap, .int .i64 lk, .int .i64 lt, .string nm, .int .i64 op, .int .i64 k', .int .i64 n, .int .i64 d, .int .i64 u, .slice oa' kids'.length cap', .string wd, .string vl, .bool an] 49)).alloc (.cells #[.int .i64 lk, .int .i64 lt, .string nm, .int .i64 op, .int .i64 k', .int .i64 n, .int .i64 d, .int .i64 u, .slice oa' kids'.length cap', .string wd, .string vl, .bool an] 47)) (w.heap.size + 1) 47 #[.int .i64 lk, .int .i64 lt, .string nm, .int .i64 op, .int .i64 k', .int .i64 n, .int .i64 d, .int .i64 u, .slice oa' kids'.length cap', .string wd, .string vl, .bool an] := Blk.new2 _ _ _ _
          go_enter Try.func84, Try.ntmps84
          go_wp2_with fail
          ((with_reducible refine (HX.out _ hb1).mono ?_); rintro e w' ⟨⟨yk, yn, yd, yu, ya, yl, yc, rfl⟩, hbw⟩)
          replace hb1 := hb1.trans (hbw.mono hb1.size)
          replace hb2 := hb2.below hbw hb2.lt
          clear hbw
          generalize (w.alloc (.cells #[.int .i64 4, .slice oa kids.length cap, .int .i64 lk, .int .i64 lt, .string nm, .int .i64 op, .int .i64 k', .int .i64 n, .int .i64 d, .int .i64 u, .slice oa' kids'.length cap', .string wd, .string vl, .bool an] 49)).alloc _ = wz at *
          have cb0 : w'.cell? ⟨w.heap.size + 1, 0, none⟩ = some (.int .i64 lk) := (hb2).cell 0
          have fcb0 := (hb2).frozen 0
          have cb1 : w'.cell? ⟨w.heap.size + 1, 1, none⟩ = some (.int .i64 lt) := (hb2).cell 1
          have fcb1 := (hb2).frozen 1
          have cb2 : w'.cell? ⟨w.heap.size + 1, 2, none⟩ = some (.string nm) := (hb2).cell 2
          have fcb2 := (hb2).frozen 2
          have cb3 : w'.cell? ⟨w.heap.size + 1, 3, none⟩ = some (.int .i64 op) := (hb2).cell 3
          have fcb3 := (hb2).frozen 3
          have cb4 : w'.cell? ⟨w.heap.size + 1, 4, none⟩ = some (.int .i64 k') := (hb2).cell 4
          have fcb4 := (hb2).frozen 4
          have cb5 : w'.cell? ⟨w.heap.size + 1, 5, none⟩ = some (.int .i64 n) := (hb2).cell 5
          have fcb5 := (hb2).frozen 5
          have cb6 : w'.cell? ⟨w.heap.size + 1, 6, none⟩ = some (.int .i64 d) := (hb2).cell 6
          have fcb6 := (hb2).frozen 6
          have cb7 : w'.cell? ⟨w.heap.size + 1, 7, none⟩ = some (.int .i64 u) := (hb2).cell 7
          have fcb7 := (hb2).frozen 7
          have cb8 : w'.cell? ⟨w.heap.size + 1, 8, none⟩ = some (.slice oa' kids'.length cap') := (hb2).cell 8
          have fcb8 := (hb2).frozen 8
          have cb9 : w'.cell? ⟨w.heap.size + 1, 9, none⟩ = some (.string wd) := (hb2).cell 9
          have fcb9 := (hb2).frozen 9
          have cb10 : w'.cell? ⟨w.heap.size + 1, 10, none⟩ = some (.string vl) := (hb2).cell 10
          have fcb10 := (hb2).frozen 10
          have cb11 : w'.cell? ⟨w.heap.size + 1, 11, none⟩ = some (.bool an) := (hb2).cell 11
          have fcb11 := (hb2).frozen 11
          have lcb := (hb2).lt
          clear hb2
          go_wp2_with fail
          ((with_reducible refine (HB.out _ (by repeat (first | with_reducible exact hb1 | (with_reducible refine Below.setCell ?_ ?hq _; case hq => simp))) _ _ _ _ _ _ _).mono ?_); rintro e w2 ⟨rfl, hbw⟩)
          obtain ⟨m, rfl⟩ := grow_mk hbw
          clear hbw
          go_wp2_with fail
          ((with_reducible refine (HT.out _).mono ?_); rintro e w' ⟨rfl, rfl⟩)
          go_wp2_with fail
          go_ret
          exact ⟨rfl, below_grow (by repeat (first | with_reducible exact hb1 | (with_reducible refine Below.setCell ?_ ?hq _; case hq => simp))) m⟩
    · rw [evalC_more _ _ hk]
      obtain ⟨hc, f', hmk⟩ := mayC_parts hk hm
      have gk : (c == 4) = false := by simpa using hk
      clear hm
      obtain ⟨i0, hi0, hz0, hz1, hz2⟩ := info_parts infoInt
      obtain ⟨l, hlist⟩ : ∃ l, l = kids.map (evalC (fun lf => byF ns ts lf.name) h) := ⟨_, rfl⟩
      rw [← hlist]
      have hll : l.length = kids.length := by rw [hlist]; simp
      have h64 : ∀ x ∈ l, x = 0 ∨ x = 1 ∨ x = 2 := fun x hx => by
        rw [hlist] at hx
        obtain ⟨y, hy, rfl⟩ := List.mem_map.1 hx
        obtain ⟨j, hj⟩ := List.getElem?_of_mem hy
        exact evalC_three _ h f' y (hmk j y hj)
      have HL0 := Lib.hid hlist
      have H64 := Lib.hid h64
      clear hlist h64 h1 h2
      obtain ⟨lk, lt, nm, op, ⟨k', n, d, u, oa', b', o', cap', kids'⟩, wd, vl, an⟩ := lf
      rw [cv_mk]
      go_enter Try.func84, Try.ntmps84
      go_wp2_with fail
      go_loopg [6, 39] kids.length (fun kk s t wr => ∃ (i : Nat) (v : Value), v = s ∧ t = .int .i64 i ∧ Hid (Gl w wr 49 #[.int .i64 c, .slice oa kids.length cap, .int .i64 lk, .int .i64 lt, .string nm, .int .i64 op, .int .i64 k', .int .i64 n, .int .i64 d, .int .i64 u, .slice oa' kids'.length cap', .string wd, .string vl, .bool an] v i l) ∧ i ≤ kids.length ∧ kids.length - i ≤ kk)
      case atStart => exact ⟨0, .slice none 0 0, rfl, rfl, Lib.hid ⟨below_box _ _, Blk.new _ _ _, World.ownsRow_nil _ _ _ _⟩, Nat.zero_le _, by omega⟩
      case round =>
        obtain ⟨i, v, rfl, rfl, hg, hle, hk2⟩ := hrel
        by_cases hi : i < kids.length
        · have gi : decide ((i : Int) < kids.length) = true := by simpa using hi
          have hr : kids[i]? = some kids[i] := List.getElem?_eq_getElem hi
          have hx := h8 i _ hr
          have hmx := hmk i _ hr
          have hlt : l[i]? = some (evalC (fun lf => byF ns ts lf.name) h kids[i]) := by rw [HL0.out, List.getElem?_map, hr]; rfl
          obtain ⟨rfl, hbl⟩ := h7 (by omega)
          generalize kids[i] = x at *
          have hX := fun wx hb => HIH.out f' x wx (hx.2.below (w' := wx) _ hb) hmx (hEnv.below hb)
          generalize evalC (fun lf => byF ns ts lf.name) h x = M at *
          obtain ⟨xc, xoa, xb, xo, xcap, xkids, ⟨xlk, xlt, xnm, xop, ⟨xk, xn, xd, xu, xoa', xb', xo', xcap', xkids'⟩, xwd, xvl, xan⟩⟩ := x
          simp only [cv_mk] at hX
          have HX := Lib.hid hX
          clear hX
          have f0 : wr.cell? ⟨b, o + i * 14, none⟩ = some (.int .i64 xc) := (hg.out.below.cell hbl).trans (hx.1 0 _ rfl)
          have f1 : wr.cell? ⟨b, o + i * 14 + 1, none⟩ = some (.slice xoa xkids.length xcap) := (hg.out.below.cell hbl).trans (hx.1 1 _ rfl)
          have f2 : wr.cell? ⟨b, o + i * 14 + 2, none⟩ = some (.int .i64 xlk) := (hg.out.below.cell hbl).trans (hx.1 2 _ rfl)
          have f3 : wr.cell? ⟨b, o + i * 14 + 3, none⟩ = some (.int .i64 xlt) := (hg.out.below.cell hbl).trans (hx.1 3 _ rfl)
          have f4 : wr.cell? ⟨b, o + i * 14 + 4, none⟩ = some (.string xnm) := (hg.out.below.cell hbl).trans (hx.1 4 _ rfl)
          have f5 : wr.cell? ⟨b, o + i * 14 + 5, none⟩ = some (.int .i64 xop) := (hg.out.below.cell hbl).trans (hx.1 5 _ rfl)
          have f6 : wr.cell? ⟨b, o + i * 14 + 6, none⟩ = some (.int .i64 xk) := (hg.out.below.cell hbl).trans (hx.1 6 _ rfl)
          have f7 : wr.cell? ⟨b, o + i * 14 + 7, none⟩ = some (.int .i64 xn) := (hg.out.below.cell hbl).trans (hx.1 7 _ rfl)
          have f8 : wr.cell? ⟨b, o + i * 14 + 8, none⟩ = some (.int .i64 xd) := (hg.out.below.cell hbl).trans (hx.1 8 _ rfl)
          have f9 : wr.cell? ⟨b, o + i * 14 + 9, none⟩ = some (.int .i64 xu) := (hg.out.below.cell hbl).trans (hx.1 9 _ rfl)
          have f10 : wr.cell? ⟨b, o + i * 14 + 10, none⟩ = some (.slice xoa' xkids'.length xcap') := (hg.out.below.cell hbl).trans (hx.1 10 _ rfl)
          have f11 : wr.cell? ⟨b, o + i * 14 + 11, none⟩ = some (.string xwd) := (hg.out.below.cell hbl).trans (hx.1 11 _ rfl)
          have f12 : wr.cell? ⟨b, o + i * 14 + 12, none⟩ = some (.string xvl) := (hg.out.below.cell hbl).trans (hx.1 12 _ rfl)
          have f13 : wr.cell? ⟨b, o + i * 14 + 13, none⟩ = some (.bool xan) := (hg.out.below.cell hbl).trans (hx.1 13 _ rfl)
          clear hx hr h8 h7 hmx hmk hc
          generalize xkids.length = xL at *
          generalize xkids'.length = xL' at *
          have hbv := hg.out.below.alloc hg.out.below.size (.cells #[.int .i64 xc, .slice xoa xL xcap, .int .i64 xlk, .int .i64 xlt, .string xnm, .int .i64 xop, .int .i64 xk, .int .i64 xn, .int .i64 xd, .int .i64 xu, .slice xoa' xL' xcap', .string xwd, .string xvl, .bool xan] 49)
          have hxv := hg.out.box.old (.cells #[.int .i64 xc, .slice xoa xL xcap, .int .i64 xlk, .int .i64 xlt, .string xnm, .int .i64 xop, .int .i64 xk, .int .i64 xn, .int .i64 xd, .int .i64 xu, .slice xoa' xL' xcap', .string xwd, .string xvl, .bool xan] 49)
          have hov := hg.out.own.alloc (.cells #[.int .i64 xc, .slice xoa xL xcap, .int .i64 xlk, .int .i64 xlt, .string xnm, .int .i64 xop, .int .i64 xk, .int .i64 xn, .int .i64 xd, .int .i64 xu, .slice xoa' xL' xcap', .string xwd, .string xvl, .bool xan] 49)
          have hin : i + 1 ≤ maxLen := by omega
          have hib : (i + 1) * 8 ≤ 140737488355328 := by omega
          have hvb := hg.out.own.lt
          have hne : v.ownBlock ≠ some w.heap.size := fun e => by have := (hvb _ e).1; omega
          have HVR := Lib.hid (show ∀ k, v.ownBlock = some k → w.heap.size ≤ k from fun k e => by have := (hvb _ e).1; omega)
          have hbs := hg.out.box.lt
          have HT := Lib.hid hlt
          clear hvb hlt hg
          go_wp2_with fail
          ((with_reducible refine (HX.out _ hbv).mono ?_); rintro e w' ⟨rfl, hbw⟩)
          obtain ⟨m, rfl⟩ := grow_mk hbw
          clear hbw
          replace hbv := below_grow hbv m
          replace hxv := hxv.grow m
          replace hov := owns_below hov (grow_below m)
          generalize grow _ m = wq at *
          have hsq := hxv.lt
          clear f0 f1 f2 f3 f4 f5 f6 f7 f8 f9 f10 f11 f12 f13
          go_wp2_with (at_builtin; refine wpList_append_lies _ rfl _ _ _ rfl (w.heap.size + 1) 3 i0 _ 1 8 Try.underlying36 hi0 hz0 hz1 hz2 rfl (by omega) v i ((l.take i).map (Value.int .i64)) rfl (hov.alloc _) ⟨wq.heap.size, 0, none⟩ 1 1 [.int .i64 M] rfl rfl (World.news_of_block (cs := #[.int .i64 M]) (t := 3) (fr := (0, 0)) (heap_alloc_new wq _)) (by simp [Value.oneCell']) (by omega) hin hib (by simp; omega) (wq.heap.size + 1) (by simp) ?_; intro gg cap2 w1 hown1 hgrow hat hlt; have HR1 := Lib.hid (And.intro (blk_grownBy (hxv.old _) hgrow (Ne.symm hne)) (And.intro (below_grownBy (hbv.alloc hbv.size _) hgrow (Nat.le_trans hbv.size (by simp)) HVR.out) hown1)); clear hown1 hgrow hat)
          go_roundg (kids.length - (i + 1))
          case measure => omega
          case rel =>
            obtain ⟨r1, r2, r3⟩ := HR1.out
            exact ⟨i + 1, _, rfl, by go_num, Lib.hid ⟨r2, r1, by rw [List.take_add_one, HT.out, List.map_append]; exact r3⟩, hi, by omega⟩
        · obtain rfl : i = kids.length := by omega
          have hown := hg.out.own
          rw [List.take_of_length_le (by omega)] at hown
          obtain ⟨oa2, cap2, g2, rfl, hI⟩ := ints_of_own hown (fun x hx => by have := H64.out x hx; unfold I64; omega)
          have hbel := Lib.hid hg.out.below
          have cb0 : wr.cell? ⟨w.heap.size, 0, none⟩ = some (.int .i64 c) := (hg.out.box).cell 0
          have fcb0 := (hg.out.box).frozen 0
          have cb1 : wr.cell? ⟨w.heap.size, 1, none⟩ = some (.slice oa kids.length cap) := (hg.out.box).cell 1
          have fcb1 := (hg.out.box).frozen 1
          have cb2 : wr.cell? ⟨w.heap.size, 2, none⟩ = some (.int .i64 lk) := (hg.out.box).cell 2
          have fcb2 := (hg.out.box).frozen 2
          have cb3 : wr.cell? ⟨w.heap.size, 3, none⟩ = some (.int .i64 lt) := (hg.out.box).cell 3
          have fcb3 := (hg.out.box).frozen 3
          have cb4 : wr.cell? ⟨w.heap.size, 4, none⟩ = some (.string nm) := (hg.out.box).cell 4
          have fcb4 := (hg.out.box).frozen 4
          have cb5 : wr.cell? ⟨w.heap.size, 5, none⟩ = some (.int .i64 op) := (hg.out.box).cell 5
          have fcb5 := (hg.out.box).frozen 5
          have cb6 : wr.cell? ⟨w.heap.size, 6, none⟩ = some (.int .i64 k') := (hg.out.box).cell 6
          have fcb6 := (hg.out.box).frozen 6
          have cb7 : wr.cell? ⟨w.heap.size, 7, none⟩ = some (.int .i64 n) := (hg.out.box).cell 7
          have fcb7 := (hg.out.box).frozen 7
          have cb8 : wr.cell? ⟨w.heap.size, 8, none⟩ = some (.int .i64 d) := (hg.out.box).cell 8
          have fcb8 := (hg.out.box).frozen 8
          have cb9 : wr.cell? ⟨w.heap.size, 9, none⟩ = some (.int .i64 u) := (hg.out.box).cell 9
          have fcb9 := (hg.out.box).frozen 9
          have cb10 : wr.cell? ⟨w.heap.size, 10, none⟩ = some (.slice oa' kids'.length cap') := (hg.out.box).cell 10
          have fcb10 := (hg.out.box).frozen 10
          have cb11 : wr.cell? ⟨w.heap.size, 11, none⟩ = some (.string wd) := (hg.out.box).cell 11
          have fcb11 := (hg.out.box).frozen 11
          have cb12 : wr.cell? ⟨w.heap.size, 12, none⟩ = some (.string vl) := (hg.out.box).cell 12
          have fcb12 := (hg.out.box).frozen 12
          have cb13 : wr.cell? ⟨w.heap.size, 13, none⟩ = some (.bool an) := (hg.out.box).cell 13
          have fcb13 := (hg.out.box).frozen 13
          have lcb := (hg.out.box).lt
          clear hown hg HIH h8 h7 hmk HL0 H64
          rcases hc with rfl | rfl | ⟨rfl, hone⟩
          · obtain ⟨A, hA⟩ : ∃ A, andG 2 l = A := ⟨_, rfl⟩
            have HQ := Lib.hid hA
            have hC := and_any oa2 kids.length cap2 g2 0 l wr hI
            rw [hA] at hC
            have HA := Lib.hid hC
            clear hA hC hI
            go_wp2_with fail
            ((with_reducible refine HA.out.mono ?_); rintro e w' ⟨rfl, rfl⟩)
            go_wp2_with fail
            go_ret
            exact ⟨ret_int HQ.out.symm, hbel.out⟩
          · obtain ⟨A, hA⟩ : ∃ A, orG 0 l = A := ⟨_, rfl⟩
            have HQ := Lib.hid hA
            have hC := or_any oa2 kids.length cap2 g2 0 l wr hI
            rw [hA] at hC
            have HA := Lib.hid hC
            clear hA hC hI
            go_wp2_with fail
            ((with_reducible refine HA.out.mono ?_); rintro e w' ⟨rfl, rfl⟩)
            go_wp2_with fail
            go_ret
            exact ⟨ret_int HQ.out.symm, hbel.out⟩
          · obtain ⟨z, hz⟩ : ∃ z, l[0]? = some z := ⟨l[0]'(by omega), List.getElem?_eq_getElem (by omega)⟩
            have hd : l.headD 1 = z := by cases l <;> simp_all
            have e0 := hI.c0 0 z hz
            have h64 := hI.is64 0 z hz
            have ha := hI.at_ (by omega)
            have hlt2 := hI.lt (by omega)
            have hC := not_any z wr h64.1 h64.2
            obtain ⟨R, hR⟩ : ∃ R, 2 - tr z = R := ⟨_, rfl⟩
            have HQ := Lib.hid (show 2 - tr (l.headD 1) = R by rw [hd, hR])
            rw [hR] at hC
            have HN := Lib.hid hC
            simp only [Nat.zero_add] at e0
            clear hI hd hz h64 hC hR
            generalize kids.length = KL at *
            subst ha hone
            go_wp2_with fail
            ((with_reducible refine HN.out.mono ?_); rintro e w' ⟨rfl, rfl⟩)
            go_wp2_with fail
            go_ret
            exact ⟨ret_int (by simpa using HQ.out.symm), hbel.out⟩

set_option maxRecDepth 20000 in
set_option maxHeartbeats 8000000 in
theorem eval_nil : ∀ (h f : Nat) (e : Cd) (w : World), CdIn w h e → mayC f e = true → 
    Calls Try.prog 84 #[cv e, .nilFunc] w fun x w' => x = .returned (.int .i64 (evalC (fun _ => 1) h e)) ∧ Below w.heap.size w w' := by
  intro h
  induction h with
  | zero => exact fun _ _ _ h => h.elim
  | succ h ih =>
    intro f e w hx hm
    obtain ⟨c, oa, b, o, cap, kids, lf⟩ := e
    obtain ⟨h1, h2, h4, h5, h6, h7, h8⟩ := hx
    have hsm : kids.length ≤ 9223372036854775807 := Nat.le_trans (Nat.le_trans h4 h5) (by decide)
    have hmax : kids.length ≤ maxLen := Nat.le_trans h4 h5
    have HIH := Lib.hid ih
    clear ih
    by_cases hk : c = 4
    · subst hk
      rw [evalC_leaf]
      have ht := mayC_truth hm
      clear hm h7 h8 HIH
      obtain ⟨lk, lt, nm, op, ex, wd, vl, an⟩ := lf
      simp only at *
      have hE := fun wx hb => expr_any h ex wx (h2.2.2.2.below h (w' := wx) hb)
      obtain ⟨k', n, d, u, oa', b', o', cap', kids'⟩ := ex
      simp only [xv_mk] at hE
      rw [cv_mk]
      have HX := Lib.hid hE
      clear hE h2 h1 ht
      by_cases l1 : lk = 1
      · subst l1
        rw [if_pos rfl]
        go_enter Try.func84, Try.ntmps84
        go_wp2_with fail
        go_ret
        exact ⟨rfl, (below_box _ _).alloc (by simp) _⟩
      · rw [if_neg l1]
        have g1 : (lk == 1) = false := by simpa using l1
        by_cases l0 : lk = 0
        · subst l0
          rw [if_pos rfl]
          go_enter Try.func84, Try.ntmps84
          go_wp2_with fail
          go_ret
          exact ⟨rfl, (below_box _ _).alloc (by simp) _⟩
        · rw [if_neg l0]
          have g0 : (lk == 0) = false := by simpa using l0
          rw [show tr 1 = 1 from rfl]
          go_enter Try.func84, Try.ntmps84
          go_wp2_with fail
          go_ret
          exact ⟨rfl, (below_box _ _).alloc (by simp) _⟩
    · rw [evalC_more _ _ hk]
      obtain ⟨hc, f', hmk⟩ := mayC_parts hk hm
      have gk : (c == 4) = false := by simpa using hk
      clear hm
      obtain ⟨i0, hi0, hz0, hz1, hz2⟩ := info_parts infoInt
      obtain ⟨l, hlist⟩ : ∃ l, l = kids.map (evalC (fun _ => 1) h) := ⟨_, rfl⟩
      rw [← hlist]
      have hll : l.length = kids.length := by rw [hlist]; simp
      have h64 : ∀ x ∈ l, x = 0 ∨ x = 1 ∨ x = 2 := fun x hx => by
        rw [hlist] at hx
        obtain ⟨y, hy, rfl⟩ := List.mem_map.1 hx
        obtain ⟨j, hj⟩ := List.getElem?_of_mem hy
        exact evalC_three _ h f' y (hmk j y hj)
      have HL0 := Lib.hid hlist
      have H64 := Lib.hid h64
      clear hlist h64 h1 h2
      obtain ⟨lk, lt, nm, op, ⟨k', n, d, u, oa', b', o', cap', kids'⟩, wd, vl, an⟩ := lf
      rw [cv_mk]
      go_enter Try.func84, Try.ntmps84
      go_wp2_with fail
      go_loopg [6, 39] kids.length (fun kk s t wr => ∃ (i : Nat) (v : Value), v = s ∧ t = .int .i64 i ∧ Hid (Gl w wr 49 #[.int .i64 c, .slice oa kids.length cap, .int .i64 lk, .int .i64 lt, .string nm, .int .i64 op, .int .i64 k', .int .i64 n, .int .i64 d, .int .i64 u, .slice oa' kids'.length cap', .string wd, .string vl, .bool an] v i l) ∧ i ≤ kids.length ∧ kids.length - i ≤ kk)
      case atStart => exact ⟨0, .slice none 0 0, rfl, rfl, Lib.hid ⟨below_box _ _, Blk.new _ _ _, World.ownsRow_nil _ _ _ _⟩, Nat.zero_le _, by omega⟩
      case round =>
        obtain ⟨i, v, rfl, rfl, hg, hle, hk2⟩ := hrel
        by_cases hi : i < kids.length
        · have gi : decide ((i : Int) < kids.length) = true := by simpa using hi
          have hr : kids[i]? = some kids[i] := List.getElem?_eq_getElem hi
          have hx := h8 i _ hr
          have hmx := hmk i _ hr
          have hlt : l[i]? = some (evalC (fun _ => 1) h kids[i]) := by rw [HL0.out, List.getElem?_map, hr]; rfl
          obtain ⟨rfl, hbl⟩ := h7 (by omega)
          generalize kids[i] = x at *
          have hX := fun wx hb => HIH.out f' x wx (hx.2.below (w' := wx) _ hb) hmx
          generalize evalC (fun _ => 1) h x = M at *
          obtain ⟨xc, xoa, xb, xo, xcap, xkids, ⟨xlk, xlt, xnm, xop, ⟨xk, xn, xd, xu, xoa', xb', xo', xcap', xkids'⟩, xwd, xvl, xan⟩⟩ := x
          simp only [cv_mk] at hX
          have HX := Lib.hid hX
          clear hX
          have f0 : wr.cell? ⟨b, o + i * 14, none⟩ = some (.int .i64 xc) := (hg.out.below.cell hbl).trans (hx.1 0 _ rfl)
          have f1 : wr.cell? ⟨b, o + i * 14 + 1, none⟩ = some (.slice xoa xkids.length xcap) := (hg.out.below.cell hbl).trans (hx.1 1 _ rfl)
          have f2 : wr.cell? ⟨b, o + i * 14 + 2, none⟩ = some (.int .i64 xlk) := (hg.out.below.cell hbl).trans (hx.1 2 _ rfl)
          have f3 : wr.cell? ⟨b, o + i * 14 + 3, none⟩ = some (.int .i64 xlt) := (hg.out.below.cell hbl).trans (hx.1 3 _ rfl)
          have f4 : wr.cell? ⟨b, o + i * 14 + 4, none⟩ = some (.string xnm) := (hg.out.below.cell hbl).trans (hx.1 4 _ rfl)
          have f5 : wr.cell? ⟨b, o + i * 14 + 5, none⟩ = some (.int .i64 xop) := (hg.out.below.cell hbl).trans (hx.1 5 _ rfl)
          have f6 : wr.cell? ⟨b, o + i * 14 + 6, none⟩ = some (.int .i64 xk) := (hg.out.below.cell hbl).trans (hx.1 6 _ rfl)
          have f7 : wr.cell? ⟨b, o + i * 14 + 7, none⟩ = some (.int .i64 xn) := (hg.out.below.cell hbl).trans (hx.1 7 _ rfl)
          have f8 : wr.cell? ⟨b, o + i * 14 + 8, none⟩ = some (.int .i64 xd) := (hg.out.below.cell hbl).trans (hx.1 8 _ rfl)
          have f9 : wr.cell? ⟨b, o + i * 14 + 9, none⟩ = some (.int .i64 xu) := (hg.out.below.cell hbl).trans (hx.1 9 _ rfl)
          have f10 : wr.cell? ⟨b, o + i * 14 + 10, none⟩ = some (.slice xoa' xkids'.length xcap') := (hg.out.below.cell hbl).trans (hx.1 10 _ rfl)
          have f11 : wr.cell? ⟨b, o + i * 14 + 11, none⟩ = some (.string xwd) := (hg.out.below.cell hbl).trans (hx.1 11 _ rfl)
          have f12 : wr.cell? ⟨b, o + i * 14 + 12, none⟩ = some (.string xvl) := (hg.out.below.cell hbl).trans (hx.1 12 _ rfl)
          have f13 : wr.cell? ⟨b, o + i * 14 + 13, none⟩ = some (.bool xan) := (hg.out.below.cell hbl).trans (hx.1 13 _ rfl)
          clear hx hr h8 h7 hmx hmk hc
          generalize xkids.length = xL at *
          generalize xkids'.length = xL' at *
          have hbv := hg.out.below.alloc hg.out.below.size (.cells #[.int .i64 xc, .slice xoa xL xcap, .int .i64 xlk, .int .i64 xlt, .string xnm, .int .i64 xop, .int .i64 xk, .int .i64 xn, .int .i64 xd, .int .i64 xu, .slice xoa' xL' xcap', .string xwd, .string xvl, .bool xan] 49)
          have hxv := hg.out.box.old (.cells #[.int .i64 xc, .slice xoa xL xcap, .int .i64 xlk, .int .i64 xlt, .string xnm, .int .i64 xop, .int .i64 xk, .int .i64 xn, .int .i64 xd, .int .i64 xu, .slice xoa' xL' xcap', .string xwd, .string xvl, .bool xan] 49)
          have hov := hg.out.own.alloc (.cells #[.int .i64 xc, .slice xoa xL xcap, .int .i64 xlk, .int .i64 xlt, .string xnm, .int .i64 xop, .int .i64 xk, .int .i64 xn, .int .i64 xd, .int .i64 xu, .slice xoa' xL' xcap', .string xwd, .string xvl, .bool xan] 49)
          have hin : i + 1 ≤ maxLen := by omega
          have hib : (i + 1) * 8 ≤ 140737488355328 := by omega
          have hvb := hg.out.own.lt
          have hne : v.ownBlock ≠ some w.heap.size := fun e => by have := (hvb _ e).1; omega
          have HVR := Lib.hid (show ∀ k, v.ownBlock = some k → w.heap.size ≤ k from fun k e => by have := (hvb _ e).1; omega)
          have hbs := hg.out.box.lt
          have HT := Lib.hid hlt
          clear hvb hlt hg
          go_wp2_with fail
          ((with_reducible refine (HX.out _ hbv).mono ?_); rintro e w' ⟨rfl, hbw⟩)
          obtain ⟨m, rfl⟩ := grow_mk hbw
          clear hbw
          replace hbv := below_grow hbv m
          replace hxv := hxv.grow m
          replace hov := owns_below hov (grow_below m)
          generalize grow _ m = wq at *
          have hsq := hxv.lt
          clear f0 f1 f2 f3 f4 f5 f6 f7 f8 f9 f10 f11 f12 f13
          go_wp2_with (at_builtin; refine wpList_append_lies _ rfl _ _ _ rfl (w.heap.size + 1) 3 i0 _ 1 8 Try.underlying36 hi0 hz0 hz1 hz2 rfl (by omega) v i ((l.take i).map (Value.int .i64)) rfl (hov.alloc _) ⟨wq.heap.size, 0, none⟩ 1 1 [.int .i64 M] rfl rfl (World.news_of_block (cs := #[.int .i64 M]) (t := 3) (fr := (0, 0)) (heap_alloc_new wq _)) (by simp [Value.oneCell']) (by omega) hin hib (by simp; omega) (wq.heap.size + 1) (by simp) ?_; intro gg cap2 w1 hown1 hgrow hat hlt; have HR1 := Lib.hid (And.intro (blk_grownBy (hxv.old _) hgrow (Ne.symm hne)) (And.intro (below_grownBy (hbv.alloc hbv.size _) hgrow (Nat.le_trans hbv.size (by simp)) HVR.out) hown1)); clear hown1 hgrow hat)
          go_roundg (kids.length - (i + 1))
          case measure => omega
          case rel =>
            obtain ⟨r1, r2, r3⟩ := HR1.out
            exact ⟨i + 1, _, rfl, by go_num, Lib.hid ⟨r2, r1, by rw [List.take_add_one, HT.out, List.map_append]; exact r3⟩, hi, by omega⟩
        · obtain rfl : i = kids.length := by omega
          have hown := hg.out.own
          rw [List.take_of_length_le (by omega)] at hown
          obtain ⟨oa2, cap2, g2, rfl, hI⟩ := ints_of_own hown (fun x hx => by have := H64.out x hx; unfold I64; omega)
          have hbel := Lib.hid hg.out.below
          have cb0 : wr.cell? ⟨w.heap.size, 0, none⟩ = some (.int .i64 c) := (hg.out.box).cell 0
          have fcb0 := (hg.out.box).frozen 0
          have cb1 : wr.cell? ⟨w.heap.size, 1, none⟩ = some (.slice oa kids.length cap) := (hg.out.box).cell 1
          have fcb1 := (hg.out.box).frozen 1
          have cb2 : wr.cell? ⟨w.heap.size, 2, none⟩ = some (.int .i64 lk) := (hg.out.box).cell 2
          have fcb2 := (hg.out.box).frozen 2
          have cb3 : wr.cell? ⟨w.heap.size, 3, none⟩ = some (.int .i64 lt) := (hg.out.box).cell 3
          have fcb3 := (hg.out.box).frozen 3
          have cb4 : wr.cell? ⟨w.heap.size, 4, none⟩ = some (.string nm) := (hg.out.box).cell 4
          have fcb4 := (hg.out.box).frozen 4
          have cb5 : wr.cell? ⟨w.heap.size, 5, none⟩ = some (.int .i64 op) := (hg.out.box).cell 5
          have fcb5 := (hg.out.box).frozen 5
          have cb6 : wr.cell? ⟨w.heap.size, 6, none⟩ = some (.int .i64 k') := (hg.out.box).cell 6
          have fcb6 := (hg.out.box).frozen 6
          have cb7 : wr.cell? ⟨w.heap.size, 7, none⟩ = some (.int .i64 n) := (hg.out.box).cell 7
          have fcb7 := (hg.out.box).frozen 7
          have cb8 : wr.cell? ⟨w.heap.size, 8, none⟩ = some (.int .i64 d) := (hg.out.box).cell 8
          have fcb8 := (hg.out.box).frozen 8
          have cb9 : wr.cell? ⟨w.heap.size, 9, none⟩ = some (.int .i64 u) := (hg.out.box).cell 9
          have fcb9 := (hg.out.box).frozen 9
          have cb10 : wr.cell? ⟨w.heap.size, 10, none⟩ = some (.slice oa' kids'.length cap') := (hg.out.box).cell 10
          have fcb10 := (hg.out.box).frozen 10
          have cb11 : wr.cell? ⟨w.heap.size, 11, none⟩ = some (.string wd) := (hg.out.box).cell 11
          have fcb11 := (hg.out.box).frozen 11
          have cb12 : wr.cell? ⟨w.heap.size, 12, none⟩ = some (.string vl) := (hg.out.box).cell 12
          have fcb12 := (hg.out.box).frozen 12
          have cb13 : wr.cell? ⟨w.heap.size, 13, none⟩ = some (.bool an) := (hg.out.box).cell 13
          have fcb13 := (hg.out.box).frozen 13
          have lcb := (hg.out.box).lt
          clear hown hg HIH h8 h7 hmk HL0 H64
          rcases hc with rfl | rfl | ⟨rfl, hone⟩
          · obtain ⟨A, hA⟩ : ∃ A, andG 2 l = A := ⟨_, rfl⟩
            have HQ := Lib.hid hA
            have hC := and_any oa2 kids.length cap2 g2 0 l wr hI
            rw [hA] at hC
            have HA := Lib.hid hC
            clear hA hC hI
            go_wp2_with fail
            ((with_reducible refine HA.out.mono ?_); rintro e w' ⟨rfl, rfl⟩)
            go_wp2_with fail
            go_ret
            exact ⟨ret_int HQ.out.symm, hbel.out⟩
          · obtain ⟨A, hA⟩ : ∃ A, orG 0 l = A := ⟨_, rfl⟩
            have HQ := Lib.hid hA
            have hC := or_any oa2 kids.length cap2 g2 0 l wr hI
            rw [hA] at hC
            have HA := Lib.hid hC
            clear hA hC hI
            go_wp2_with fail
            ((with_reducible refine HA.out.mono ?_); rintro e w' ⟨rfl, rfl⟩)
            go_wp2_with fail
            go_ret
            exact ⟨ret_int HQ.out.symm, hbel.out⟩
          · obtain ⟨z, hz⟩ : ∃ z, l[0]? = some z := ⟨l[0]'(by omega), List.getElem?_eq_getElem (by omega)⟩
            have hd : l.headD 1 = z := by cases l <;> simp_all
            have e0 := hI.c0 0 z hz
            have h64 := hI.is64 0 z hz
            have ha := hI.at_ (by omega)
            have hlt2 := hI.lt (by omega)
            have hC := not_any z wr h64.1 h64.2
            obtain ⟨R, hR⟩ : ∃ R, 2 - tr z = R := ⟨_, rfl⟩
            have HQ := Lib.hid (show 2 - tr (l.headD 1) = R by rw [hd, hR])
            rw [hR] at hC
            have HN := Lib.hid hC
            simp only [Nat.zero_add] at e0
            clear hI hd hz h64 hC hR
            generalize kids.length = KL at *
            subst ha hone
            go_wp2_with fail
            ((with_reducible refine HN.out.mono ?_); rintro e w' ⟨rfl, rfl⟩)
            go_wp2_with fail
            go_ret
            exact ⟨ret_int (by simpa using HQ.out.symm), hbel.out⟩

end Go.Proofs.Ytgjhaanpkfheeaa
