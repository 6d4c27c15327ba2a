/- A leaf's truth, by where its name stands in a list. -/
import Derived.Test.YtgjhaanpkfheeaaCopy
namespace Go.Proofs.Ytgjhaanpkfheeaa
set_option linter.unusedVariables false
set_option linter.unusedSimpArgs false
open Go.RowKit

/-- the texts that lie in a slice -/
structure Strs (w : World) (oa : Option Addr) (len cap : Nat) (b o : Nat) (l : List ByteArray) : Prop where
  hlen : len = l.length
  hcap : len ≤ cap
  small : cap ≤ maxLen
  at_ : 0 < len → oa = some ⟨b, o, none⟩
  lt : 0 < len → b < w.heap.size
  c0 : ∀ (i : Nat) (x : ByteArray), l[i]? = some x → w.cell? ⟨b, o + i, none⟩ = some (.string x)

theorem Strs.below {w w' : World} {oa : Option Addr} {len cap b o : Nat} {l : List ByteArray} (h : Strs w oa len cap b o l) (hb : Below w.heap.size w w') : Strs w' oa len cap b o l := by
  have key : ∀ (i : Nat) (r : ByteArray), l[i]? = some r → 0 < len := fun i r hr => by
    have := (List.getElem?_eq_some_iff.1 hr).1
    rw [h.hlen]; omega
  refine ⟨h.hlen, h.hcap, h.small, h.at_, fun hl => Nat.lt_of_lt_of_le (h.lt hl) hb.size, fun i r hr => ?_⟩
  rw [hb.cell (h.lt (key i r hr))]; exact h.c0 i r hr

/-- what stands beside a name -/
def byF : List ByteArray → List Int → ByteArray → Int
  | n :: ns, t :: ts, x => if n.toList == x.toList then t else byF ns ts x
  | _, _, _ => 0

theorem byF_step {ns : List ByteArray} {ts : List Int} {x : ByteArray} {i : Nat} {s : ByteArray} {t : Int} (hs : ns[i]? = some s) (ht : ts[i]? = some t) :
    byF (ns.drop i) (ts.drop i) x = if s.toList == x.toList then t else byF (ns.drop (i + 1)) (ts.drop (i + 1)) x := by
  obtain ⟨h1, rfl⟩ := List.getElem?_eq_some_iff.1 hs
  obtain ⟨h2, rfl⟩ := List.getElem?_eq_some_iff.1 ht
  rw [List.drop_eq_getElem_cons h1, List.drop_eq_getElem_cons h2]
  rfl
theorem byF_end {ns : List ByteArray} {ts : List Int} {x : ByteArray} {i : Nat} (h : ¬ i < ns.length ∨ ¬ i < ts.length) : byF (ns.drop i) (ts.drop i) x = 0 := by
  rcases h with h | h
  · rw [show ns.drop i = [] from List.drop_eq_nil_of_le (by omega)]; rfl
  · rw [show ts.drop i = [] from List.drop_eq_nil_of_le (by omega)]
    cases ns.drop i <;> rfl

/-- the two lists that the function looks into -/
structure Env (w : World) (gN gT : Nat) (oa : Option Addr) (len cap b o : Nat) (ns : List ByteArray) (oa' : Option Addr) (len' cap' b' o' : Nat) (ts : List Int) : Prop where
  names : Strs w oa len cap b o ns
  truths : Ints w oa' len' cap' b' o' ts
  boxN : Blk w gN 50 #[.slice oa len cap]
  boxT : Blk w gT 36 #[.slice oa' len' cap']
theorem Env.below {w w' : World} {gN gT : Nat} {oa : Option Addr} {len cap b o : Nat} {ns : List ByteArray} {oa' : Option Addr} {len' cap' b' o' : Nat} {ts : List Int} (h : Env w gN gT oa len cap b o ns oa' len' cap' b' o' ts) (hb : Below w.heap.size w w') :
    Env w' gN gT oa len cap b o ns oa' len' cap' b' o' ts := ⟨h.names.below hb, h.truths.below hb, h.boxN.below hb h.boxN.lt, h.boxT.below hb h.boxT.lt⟩

set_option maxRecDepth 20000 in
set_option maxHeartbeats 4000000 in
theorem by_any (gN gT : Nat) (oa : Option Addr) (len cap b o : Nat) (ns : List ByteArray) (oa' : Option Addr) (len' cap' b' o' : Nat) (ts : List Int) (k t : Int) (nm : ByteArray) (op k' n d u : Int) (oe : Option Addr) (le ce : Nat) (wd vl : ByteArray) (an : Bool)
    (w : World) (h : Env w gN gT oa len cap b o ns oa' len' cap' b' o' ts) :
    Calls Try.prog 83 #[.agg #[.int .i64 k, .int .i64 t, .string nm, .int .i64 op, .int .i64 k', .int .i64 n, .int .i64 d, .int .i64 u, .slice oe le ce, .string wd, .string vl, .bool an], .pointer (some ⟨gN, 0, none⟩), .pointer (some ⟨gT, 0, none⟩)] w fun x w' => x = .returned (.int .i64 (byF ns ts nm)) ∧ Below w.heap.size w w' := by
  have hl1 := h.names.hlen
  have hl2 := h.truths.hlen
  subst hl1 hl2
  have hs1 : ns.length ≤ 9223372036854775807 := Nat.le_trans (Nat.le_trans h.names.hcap h.names.small) (by decide)
  have hs2 : ts.length ≤ 9223372036854775807 := Nat.le_trans (Nat.le_trans h.truths.hcap h.truths.small) (by decide)
  have H := Lib.hid h
  clear h
  go_enter Try.func83, Try.ntmps83
  go_wp2_with fail
  go_loopg [5] ns.length (fun kk s wr => ∃ (i : Nat), s = .int .i64 i ∧ Hid (Gk w wr 47 #[.int .i64 k, .int .i64 t, .string nm, .int .i64 op, .int .i64 k', .int .i64 n, .int .i64 d, .int .i64 u, .slice oe le ce, .string wd, .string vl, .bool an]) ∧ i ≤ ns.length ∧ Hid (byF (ns.drop i) (ts.drop i) nm = byF ns ts nm) ∧ ns.length - i ≤ kk)
  case atStart => exact ⟨0, rfl, Lib.hid ⟨below_box _ _, Blk.new _ _ _⟩, Nat.zero_le _, Lib.hid rfl, by omega⟩
  case round =>
    obtain ⟨i, rfl, hg, hle, hl, hk2⟩ := hrel
    have hbel := Lib.hid hg.out.below
    have HE := Lib.hid (H.out.below hg.out.below)
    have cn0 : wr.cell? ⟨gN, 0, none⟩ = some (.slice oa ns.length cap) := (HE.out.boxN).cell 0
    have fcn0 := (HE.out.boxN).frozen 0
    have lcn := (HE.out.boxN).lt
    have ct0 : wr.cell? ⟨gT, 0, none⟩ = some (.slice oa' ts.length cap') := (HE.out.boxT).cell 0
    have fct0 := (HE.out.boxT).frozen 0
    have lct := (HE.out.boxT).lt
    have cb0 : wr.cell? ⟨w.heap.size, 0, none⟩ = some (.int .i64 k) := (hg.out.box).cell 0
    have fcb0 := (hg.out.box).frozen 0
    have cb1 : wr.cell? ⟨w.heap.size, 1, none⟩ = some (.int .i64 t) := (hg.out.box).cell 1
    have fcb1 := (hg.out.box).frozen 1
    have cb2 : wr.cell? ⟨w.heap.size, 2, none⟩ = some (.string nm) := (hg.out.box).cell 2
    have fcb2 := (hg.out.box).frozen 2
    have cb3 : wr.cell? ⟨w.heap.size, 3, none⟩ = some (.int .i64 op) := (hg.out.box).cell 3
    have fcb3 := (hg.out.box).frozen 3
    have cb4 : wr.cell? ⟨w.heap.size, 4, none⟩ = some (.int .i64 k') := (hg.out.box).cell 4
    have fcb4 := (hg.out.box).frozen 4
    have cb5 : wr.cell? ⟨w.heap.size, 5, none⟩ = some (.int .i64 n) := (hg.out.box).cell 5
    have fcb5 := (hg.out.box).frozen 5
    have cb6 : wr.cell? ⟨w.heap.size, 6, none⟩ = some (.int .i64 d) := (hg.out.box).cell 6
    have fcb6 := (hg.out.box).frozen 6
    have cb7 : wr.cell? ⟨w.heap.size, 7, none⟩ = some (.int .i64 u) := (hg.out.box).cell 7
    have fcb7 := (hg.out.box).frozen 7
    have cb8 : wr.cell? ⟨w.heap.size, 8, none⟩ = some (.slice oe le ce) := (hg.out.box).cell 8
    have fcb8 := (hg.out.box).frozen 8
    have cb9 : wr.cell? ⟨w.heap.size, 9, none⟩ = some (.string wd) := (hg.out.box).cell 9
    have fcb9 := (hg.out.box).frozen 9
    have cb10 : wr.cell? ⟨w.heap.size, 10, none⟩ = some (.string vl) := (hg.out.box).cell 10
    have fcb10 := (hg.out.box).frozen 10
    have cb11 : wr.cell? ⟨w.heap.size, 11, none⟩ = some (.bool an) := (hg.out.box).cell 11
    have fcb11 := (hg.out.box).frozen 11
    have lcb := (hg.out.box).lt
    by_cases hi : i < ns.length
    · have gi : decide ((i : Int) < ns.length) = true := by simpa using hi
      by_cases hj : i < ts.length
      · have gj : decide ((i : Int) < ts.length) = true := by simpa using hj
        have hr1 : ns[i]? = some ns[i] := List.getElem?_eq_getElem hi
        have hr2 : ts[i]? = some ts[i] := List.getElem?_eq_getElem hj
        have e1 := HE.out.names.c0 i _ hr1
        have e2 := HE.out.truths.c0 i _ hr2
        have a1 := HE.out.names.at_ (by omega)
        have a2 := HE.out.truths.at_ (by omega)
        have l1 := HE.out.names.lt (by omega)
        have l2 := HE.out.truths.lt (by omega)
        have hlaw := hl.out
        rw [byF_step hr1 hr2] at hlaw
        clear hr1 hr2 hl
        generalize ns[i] = s at *
        generalize ts[i] = tt at *
        subst a1 a2
        obtain ⟨q, hq⟩ : ∃ q, (s.toList == nm.toList) = q := ⟨_, rfl⟩
        rw [hq] at hlaw
        have HL := Lib.hid hlaw
        clear hlaw
        cases q with
        | true =>
          go_wp2_with fail
          refine wp_region_grow (by kernel_rfl) (by kernel_rfl) ?_
          repeat (go_big_quiet_step (fail))
          refine wpQuiet_nil ?_
          rintro _ ⟨m, rfl⟩
          go_wp2_with fail
          go_ret
          exact ⟨ret_int (by rw [← HL.out]; rfl), below_grow hbel.out m⟩
        | false =>
          go_wp2_with fail
          refine wp_region_grow (by kernel_rfl) (by kernel_rfl) ?_
          repeat (go_big_quiet_step (fail))
          refine wpQuiet_nil ?_
          rintro _ ⟨m, rfl⟩
          go_wp2_with fail
          go_roundg (ns.length - (i + 1))
          case measure => omega
          case rel => exact ⟨i + 1, by go_num, Lib.hid ⟨below_grow hbel.out m, hg.out.box.grow m⟩, hi, Lib.hid (by rw [← HL.out]; rfl), by omega⟩
      · have gj : decide ((i : Int) < ts.length) = false := by simpa using hj
        have hlaw := hl.out
        rw [byF_end (Or.inr hj)] at hlaw
        have HL := Lib.hid hlaw
        clear hlaw hl
        go_wp2_with fail
        go_ret
        exact ⟨ret_int HL.out, hbel.out⟩
    · have gi : decide ((i : Int) < ns.length) = false := by simpa using hi
      have hlaw := hl.out
      rw [byF_end (Or.inl hi)] at hlaw
      have HL := Lib.hid hlaw
      clear hlaw hl
      go_wp2_with fail
      go_ret
      exact ⟨ret_int HL.out, hbel.out⟩

end Go.Proofs.Ytgjhaanpkfheeaa
