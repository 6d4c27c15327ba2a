/- Of my texts: Shut, Split, Unit, CalcA, Qd, Values, Join, Word. -/
import Derived.Test.YtgjhaanpkfheeaaM08
import Derived.Test.YtgjhaanpkfheeaaM10
import Derived.Test.YtgjhaanpkfheeaaM14
import Derived.Test.YtgjhaanpkfheeaaM19
import Derived.Test.YtgjhaanpkfheeaaM20
import Derived.Test.YtgjhaanpkfheeaaM21
import Derived.Test.YtgjhaanpkfheeaaM22
namespace Go.Proofs.Ytgjhaanpkfheeaa
set_option linter.unusedVariables false
set_option linter.unusedSimpArgs false
open Go.RowKit

/-- an element behind a row, at a step of a region that draws its order -/
theorem step_add {ops : Array Oper} {o : Oper} {a : Act} {K : Act → World → Prop} {Q : Exit → Act → World → Prop} {E0 : Prop} {base : Nat} {w : World} {t e : TypeId} {z : Value} {size bytes : Nat} (E : El t e z size bytes)
    (hgd : o.guard = none) (s x : Operand) (ho : o.op = .call { callee := .builtin .append, args := #[s, x], argTypes := #[t, t] }) {v : Value} {n : Nat} {xs : List Value} (hs : a.eval s = v)
    (hown : w.ownsRow base e size v n xs) (hbase : base ≤ w.heap.size) {B : Nat} {cs : Array Value} {tc : TypeId} (hB : Blk w B tc cs) (c : Nat) (hx : a.eval x = .slice (some ⟨B, 0, none⟩) 1 c) (hl : cs.toList.length = size) (h1 : ∀ u ∈ cs.toList, u.oneCell' = true)
    (hbytes : (n + 1) * bytes ≤ 140737488355328) (h63 : n + 1 ≤ 140737488355328)
    (h : ∀ g cap w', w'.ownsRow base e size (.slice (some ⟨g, 0, none⟩) (n + 1) cap) (n + 1) (xs ++ cs.toList) → w.grownBy w' v.ownBlock → (v.ownBlock = some g ∨ w.heap.size ≤ g) → K (a.put o.dst (.slice (some ⟨g, 0, none⟩) (n + 1) cap)) w') :
    if Region.wanted o (yielded ops a.tmps) = true then Oper.wp Try.prog o a w K Q else E0 := by
  obtain ⟨i0, hi0, hz0, hz1, hz2⟩ := info_parts E.info
  refine step_append_lies _ hgd s x t ho base e i0 z size bytes E.under hi0 hz0 hz1 hz2 E.zs E.pos v n xs hs hown ⟨B, 0, none⟩ 1 c cs.toList hx (by rw [hl, Nat.one_mul])
    (World.news_of_block (cs := cs) (t := tc) (fr := (0, 0)) hB) h1 (by omega) (Nat.le_trans h63 (by decide)) hbytes hbase _ rfl fun g cap w' ho2 hg hat _ => ?_
  exact h g cap w' ho2 hg (hat.imp id fun e => by omega)

def zero7 : Array Value := #[.int .i64 0, .string ⟨#[]⟩, .int .i64 0, .int .i64 0, .bool false, .bool false, .slice none 0 0]

theorem owns_belowW {w w' : World} {base : Nat} {e : TypeId} {size : Nat} {v : Value} {n : Nat} {xs : List Value} (h : w.ownsRow base e size v n xs) (hb : Below w.heap.size w w') : w'.ownsRow base e size v n xs :=
  h.kept (grownBy_of_below hb none) (by cases v.ownBlock <;> simp)

end Go.Proofs.Ytgjhaanpkfheeaa

namespace Go.Proofs.Ytgjhaanpkfheeaa
set_option linter.unusedVariables false
set_option linter.unusedSimpArgs false
open Go.RowKit

theorem isVs.grown {A : Nat → Prop} {h : Nat} {X : List Vt} {v : Value} {w w' : World} {row : Option Nat} (hv : isVs A h X v w) (hg : w.grownBy w' row) (hr : ∀ k, row = some k → k < w.heap.size → A k) : isVs A h X v w' := by
  obtain ⟨oa, cap, b, o, l, hv, hc, hs⟩ := hv
  exact ⟨oa, cap, b, o, l, hv, hc, hs.grown hg hr⟩
theorem isVs.slice {A : Nat → Prop} {h : Nat} {X : List Vt} {v : Value} {w : World} (hv : isVs A h X v w) : ∃ oa n cap, v = .slice oa n cap := by
  obtain ⟨oa, cap, b, o, l, hv, _⟩ := hv
  exact ⟨oa, _, cap, hv⟩

end Go.Proofs.Ytgjhaanpkfheeaa

namespace Go.Proofs.Ytgjhaanpkfheeaa
set_option linter.unusedVariables false
set_option linter.unusedSimpArgs false
open Go.RowKit

set_option maxRecDepth 20000 in
set_option maxHeartbeats 4000000 in
theorem lower63_any (m : List UInt8) (w : World) (hm : m.length ≤ 9223372036854775807) :
    Calls Try.prog 135 #[.string ⟨m.toArray⟩] w fun e w' => e = .returned (.string ⟨(lowS m).toArray⟩) ∧ Below w.heap.size w w' := by
  obtain ⟨cap, w1, hrun, hb1, hbl⟩ := bytes_made m w
  obtain ⟨N, hN⟩ : ∃ N, m.length = N := ⟨_, rfl⟩
  rw [hN] at hrun hm
  have HN := Lib.hid hN
  obtain ⟨g, hg⟩ : ∃ g, w.heap.size = g := ⟨_, rfl⟩
  rw [hg] at hrun hb1 hbl ⊢
  have HB0 := Lib.hid hb1
  have HBL := Lib.hid hbl
  clear hN hb1 hbl hg
  go_enter Try.func135, Try.ntmps135
  go_wp2_with fail
  go_loopg [10] N (fun q s10 wr => ∃ (i : Nat), s10 = .int .i64 i ∧ Hid (Below g w wr) ∧ Hid (Bl wr g (lowG m i)) ∧ i ≤ N ∧ N - i ≤ q)
  case atStart => exact ⟨0, rfl, HB0, HBL, Nat.zero_le _, by omega⟩
  case round =>
    clear HB0 HBL hrun
    obtain ⟨i, rfl, hb, hbl, hiN, hq⟩ := hrel
    by_cases hi : i < N
    · have gi : decide ((i : Int) < (N : Int)) = true := by simpa using hi
      have gin : decide (i < N) = true := by simpa using hi
      have him : i < m.length := by rw [HN.out]; exact hi
      have hcell := hbl.out.cell i _ (lowG_at him)
      have hfree := hbl.out.free i (by rw [lowG_len]; exact him)
      have hlt := hbl.out.lt
      have hst := lowG_step him
      obtain ⟨c, hc⟩ : ∃ c, m[i] = c := ⟨_, rfl⟩
      rw [hc] at hcell hst
      have hc256 := UInt8.toNat_lt c
      have hset := hbl.out.set (i := i) (by rw [lowG_len]; exact him) (lowB c)
      rw [← hst] at hset
      by_cases hup : 65 ≤ c.toNat ∧ c.toNat ≤ 90
      · rw [lowB_up hup] at hset
        obtain ⟨n, hn⟩ : ∃ n, c.toNat = n := ⟨_, rfl⟩
        rw [hn] at hcell hset hup hc256
        have g1 : decide ((65 : Int) ≤ (n : Int)) = true := by simp; omega
        have g2 : decide ((n : Int) ≤ (90 : Int)) = true := by simp; omega
        have HS := Lib.hid hset
        clear hset hst hc hn hbl
        go_wp2_with fail
        go_roundg (N - (i + 1))
        case measure => omega
        case rel => exact ⟨i + 1, by go_num, Lib.hid (hb.out.setCell (by simp) _), Lib.hid (by have := HS.out; simpa using this), hi, Nat.le_refl _⟩
      · have hsame : lowG m (i + 1) = lowG m i := by
          rw [hst, lowB_same hup]
          refine List.ext_getElem? fun j => ?_
          by_cases hj : i = j
          · subst hj
            rw [List.getElem?_set_self (by rw [lowG_len]; exact him), lowG_at him, hc]
          · rw [List.getElem?_set_ne hj]
        obtain ⟨n, hn⟩ : ∃ n, c.toNat = n := ⟨_, rfl⟩
        rw [hn] at hcell hup hc256
        have ways : decide ((65 : Int) ≤ (n : Int)) = false ∨ decide ((65 : Int) ≤ (n : Int)) = true ∧ decide ((n : Int) ≤ (90 : Int)) = false := by
          by_cases h : 65 ≤ n
          · exact Or.inr ⟨by simp; omega, by simp; omega⟩
          · exact Or.inl (by simp; omega)
        have HBL2 := Lib.hid (show Bl wr g (lowG m (i + 1)) by rw [hsame]; exact hbl.out)
        clear hset hst hc hn hbl hsame
        rcases ways with g1 | ⟨g1, g2⟩
        all_goals
          go_wp2_with fail
          go_roundg (N - (i + 1))
          case measure => omega
          case rel => exact ⟨i + 1, by go_num, hb, HBL2, hi, Nat.le_refl _⟩
    · obtain rfl : i = N := by omega
      have gi : decide ((i : Int) < (i : Int)) = false := by simp
      have gin : decide (i < i) = false := by simp
      have htx := hbl.out.text cap
      rw [lowG_len, HN.out] at htx
      have hall : lowG m i = lowS m := by rw [← HN.out, lowG_all]
      rw [hall] at htx
      clear hbl hall
      go_wp2_with fail
      go_ret
      exact ⟨rfl, hb.out⟩

set_option maxHeartbeats 1000000 in
theorem like63_any (a b : List UInt8) (w : World) (ha : a.length ≤ 9223372036854775807) (hb : b.length ≤ 9223372036854775807) :
    Calls Try.prog 127 #[.string ⟨a.toArray⟩, .string ⟨b.toArray⟩] w fun e w' => e = .returned (.bool (likeS a b)) ∧ Below w.heap.size w w' := by
  have h1 := fun w => lower63_any a w ha
  have h2 := fun w => lower63_any b w hb
  unfold likeS
  generalize lowS a = x at *
  generalize lowS b = y at *
  have H1 := Lib.hid h1
  have H2 := Lib.hid h2
  clear h1 h2 ha hb
  go_enter Try.func127, Try.ntmps127
  go_wp2_with fail
  ((with_reducible refine (H1.out _).mono ?_); rintro e w' ⟨rfl, hbw⟩)
  obtain ⟨m, rfl⟩ := grow_mk hbw
  clear hbw
  go_wp2_with fail
  ((with_reducible refine (H2.out _).mono ?_); rintro e w' ⟨rfl, hbw⟩)
  obtain ⟨m2, rfl⟩ := grow_mk hbw
  clear hbw
  go_wp2_with fail
  go_ret
  exact ⟨ret_bool rfl, grow_below _⟩


end Go.Proofs.Ytgjhaanpkfheeaa

namespace Go.Proofs.Ytgjhaanpkfheeaa
set_option linter.unusedVariables false
set_option linter.unusedSimpArgs false
open Go.RowKit

mutual
def Ex.c : Ex → Et
  | .mk k n d u _ _ _ _ kids => .mk k n d u (Ex.cs kids)
def Ex.cs : List Ex → List Et
  | [] => []
  | x :: r => x.c :: Ex.cs r
end
theorem Ex.cs_map : ∀ l : List Ex, Ex.cs l = l.map Ex.c
  | [] => rfl
  | x :: r => by rw [Ex.cs, Ex.cs_map r]; rfl
theorem Ex.c_mk (k n d u : Int) (oa : Option Addr) (b o cap : Nat) (kids : List Ex) : (Ex.mk k n d u oa b o cap kids).c = .mk k n d u (kids.map Ex.c) := by rw [Ex.c, Ex.cs_map]
theorem xcells_length (x : Ex) : (xcells x).length = 5 := by cases x; rfl

theorem ExIn.of_sl {w : World} {h : Nat} {k n d u : Int} {oa : Option Addr} {b cap : Nat} {l : List Ex} (hk : I64 k) (hn : Is64 (n, d)) (hu : I64 u) (hl : l.length * 56 ≤ 140737488355328) (hs : Sl w oa l.length cap b 0 5 (l.flatMap xcells)) (he : ∀ x ∈ l, ExIn w h x) : ExIn w (h + 1) (.mk k n d u oa b 0 cap l) :=
  ⟨hk, hn, hu, hs.le, hs.max, hl, hs.lies, fun i x hi => ⟨fun j v hv => by
    have := hs.cell _ _ (flat_at xcells_length l i x j v hi hv)
    rw [show 0 + i * 5 + j = 0 + (i * 5 + j) by omega]
    exact this, he x (List.mem_of_getElem? hi)⟩⟩
theorem ExIn.made {A : Nat → Prop} {w : World} {h : Nat} {k n d u : Int} {oa : Option Addr} {b cap : Nat} {l : List Ex} (hk : I64 k) (hn : Is64 (n, d)) (hu : I64 u) (hl : l.length * 56 ≤ 140737488355328) (hs : Sl w oa l.length cap b 0 5 (l.flatMap xcells)) (hA : 0 < l.length → ¬ A b)
    (he : Safe A w fun w => ∀ x ∈ l, ExIn w h x) : Safe A w fun w => ExIn w (h + 1) (.mk k n d u oa b 0 cap l) := fun w' g1 g2 => .of_sl hk hn hu hl ((hs.safe hA) w' g1 g2) (he w' g1 g2)
theorem ExIn.leaf {A : Nat → Prop} {w : World} {k n d u : Int} (hk : I64 k) (hn : Is64 (n, d)) (hu : I64 u) : Safe A w fun w => ExIn w 1 (.mk k n d u none 0 0 0 []) := fun w' _ _ =>
  .of_sl (h := 0) hk hn hu (by simp) ⟨rfl, Nat.le_refl _, Nat.zero_le _, fun h => absurd h (by simp), fun j v h => by simp at h⟩ (fun x hx => by cases hx)

/-- the expression E is the value v; it lies clear of A -/
def isEx (A : Nat → Prop) (E : Et) (v : Value) (w : World) : Prop := ∃ (x : Ex) (h : Nat), v = xv x ∧ x.c = E ∧ Safe A w fun w => ExIn w h x
/-- five cells of an expression -/
def isE5 (v : Value) : Prop := ∃ (k n d u : Int) (oa : Option Addr) (L cap : Nat), v = .agg #[.int .i64 k, .int .i64 n, .int .i64 d, .int .i64 u, .slice oa L cap]
theorem isE5_xv (x : Ex) : isE5 (xv x) := by obtain ⟨k, n, d, u, oa, b, o, cap, kids⟩ := x; exact ⟨k, n, d, u, oa, kids.length, cap, rfl⟩
theorem isEx.e5 {A : Nat → Prop} {E : Et} {v : Value} {w : World} (h : isEx A E v w) : isE5 v := by obtain ⟨x, _, rfl, _⟩ := h; exact isE5_xv x
theorem isEx.anti {A A' : Nat → Prop} {E : Et} {v : Value} {w : World} (h : isEx A E v w) (hA : ∀ b, A' b → A b ∨ w.heap.size ≤ b) : isEx A' E v w := by
  obtain ⟨x, hh, hv, hc, hs⟩ := h
  exact ⟨x, hh, hv, hc, hs.wide hA⟩
theorem isEx.grown {A : Nat → Prop} {E : Et} {v : Value} {w w' : World} {row : Option Nat} (h : isEx A E v w) (hg : w.grownBy w' row) (hr : ∀ k, row = some k → k < w.heap.size → A k) : isEx A E v w' := by
  obtain ⟨x, hh, hv, hc, hs⟩ := h
  exact ⟨x, hh, hv, hc, hs.grown hg hr⟩
theorem isEx.below {A : Nat → Prop} {E : Et} {v : Value} {w w' : World} (h : isEx A E v w) (hb : Below w.heap.size w w') : isEx A E v w' := h.grown (grownBy_of_below hb none) (fun _ e => by cases e)
theorem Blk.put5 {w : World} {g : Nat} {t : TypeId} {a0 a1 a2 a3 a4 : Value} (h : Blk w g t #[a0, a1, a2, a3, a4]) (x0 x1 x2 x3 x4 : Value) :
    Blk (((((w.setCell ⟨g, 0, none⟩ x0).setCell ⟨g, 1, none⟩ x1).setCell ⟨g, 2, none⟩ x2).setCell ⟨g, 3, none⟩ x3).setCell ⟨g, 4, none⟩ x4) g t #[x0, x1, x2, x3, x4] := ((((h.put 0 x0).put 1 x1).put 2 x2).put 3 x3).put 4 x4
theorem below_put5 {B : Nat} {w0 w : World} (h : Below B w0 w) {g : Nat} (hg : B ≤ g) (x0 x1 x2 x3 x4 : Value) :
    Below B w0 (((((w.setCell ⟨g, 0, none⟩ x0).setCell ⟨g, 1, none⟩ x1).setCell ⟨g, 2, none⟩ x2).setCell ⟨g, 3, none⟩ x3).setCell ⟨g, 4, none⟩ x4) := ((((h.setCell hg x0).setCell hg x1).setCell hg x2).setCell hg x3).setCell hg x4
theorem sizeExpr : (Try.prog.info? 45).map (·.size) = some 5 := by kernel_rfl
theorem ret_ex {fn : Func} {p : Tmp} {tmps : Array Value} {w : World} {g : Nat} {t : TypeId} {cs : Array Value} (hr : fn.results = #[.cell p 45]) (hp : tmps.getD p undef = .pointer (some ⟨g, 0, none⟩)) (h : Blk w g t cs) (hs : cs.size = 5) : (results fn tmps).run Try.prog w = .ok (.agg cs) w :=
  results_cell_row hr tmps w g t cs (0, 0) _ hp h Try.underlying45 rfl (by rw [hs]; exact sizeExpr)
theorem i64_small (k : Int) (h : 0 ≤ k ∧ k ≤ 8) : I64 k := by unfold I64; omega

end Go.Proofs.Ytgjhaanpkfheeaa

namespace Go.Proofs.Ytgjhaanpkfheeaa
set_option linter.unusedVariables false
set_option linter.unusedSimpArgs false
open Go.RowKit

/-- a leaf of which only kind, truth and name are told -/
def Lf.bare (l : Lf) : Prop := l.op = 0 ∧ l.ex = zeroX ∧ l.word = ⟨#[]⟩ ∧ l.value = ⟨#[]⟩ ∧ l.any = false
def Lf.q (l : Lf) : Int × Int × List UInt8 := (l.kind, l.truth, l.name.data.toList)
def bareL (L : Int × Int × List UInt8) : Lf := ⟨L.1, L.2.1, ⟨L.2.2.toArray⟩, 0, zeroX, ⟨#[]⟩, ⟨#[]⟩, false⟩
mutual
def Cd.q : Cd → Qt
  | .mk k _ _ _ _ kids leaf => .mk k (Cd.qs kids) leaf.q
def Cd.qs : List Cd → List Qt
  | [] => []
  | x :: r => x.q :: Cd.qs r
end
mutual
def Cd.bare : Cd → Prop
  | .mk _ _ _ _ _ kids leaf => leaf.bare ∧ Cd.bares kids
def Cd.bares : List Cd → Prop
  | [] => True
  | x :: r => x.bare ∧ Cd.bares r
end
theorem Cd.qs_map : ∀ l : List Cd, Cd.qs l = l.map Cd.q
  | [] => rfl
  | x :: r => by rw [Cd.qs, Cd.qs_map r]; rfl
theorem Cd.bares_all : ∀ l : List Cd, Cd.bares l ↔ ∀ x ∈ l, x.bare
  | [] => by simp [Cd.bares]
  | x :: r => by rw [Cd.bares, Cd.bares_all r]; simp
theorem Cd.q_mk (k : Int) (oa : Option Addr) (b o cap : Nat) (kids : List Cd) (leaf : Lf) : (Cd.mk k oa b o cap kids leaf).q = .mk k (kids.map Cd.q) leaf.q := by rw [Cd.q, Cd.qs_map]
theorem Cd.bare_mk (k : Int) (oa : Option Addr) (b o cap : Nat) (kids : List Cd) (leaf : Lf) : (Cd.mk k oa b o cap kids leaf).bare ↔ leaf.bare ∧ ∀ x ∈ kids, x.bare := by rw [Cd.bare, Cd.bares_all]
theorem Lf.of_bare {l : Lf} (h : l.bare) : l = bareL l.q := by
  obtain ⟨k, t, n, o, e, w, v, a⟩ := l
  obtain ⟨rfl, rfl, rfl, rfl, rfl⟩ := h
  rfl
theorem ccells_length (x : Cd) : (ccells x).length = 14 := by
  obtain ⟨k, oa, b, o, cap, kids, ⟨k2, t, n, op, ⟨a0, a1, a2, a3, a4, a5, a6, a7, a8⟩, w, v, a⟩⟩ := x
  rfl
/-- the cells of a bare condition -/
def qcells (k : Int) (sl : Value) (L : Int × Int × List UInt8) : List Value := [.int .i64 k, sl, .int .i64 L.1, .int .i64 L.2.1, .string ⟨L.2.2.toArray⟩, .int .i64 0, .int .i64 0, .int .i64 0, .int .i64 0, .int .i64 0, .slice none 0 0, .string ⟨#[]⟩, .string ⟨#[]⟩, .bool false]
theorem ccells_bare (k : Int) (oa : Option Addr) (b o cap : Nat) (kids : List Cd) (L : Int × Int × List UInt8) : ccells (.mk k oa b o cap kids (bareL L)) = qcells k (.slice oa kids.length cap) L := rfl

theorem LfIn.bare {w : World} {L : Int × Int × List UInt8} (h1 : I64 L.1) (h2 : I64 L.2.1) : LfIn w 1 (bareL L) :=
  ⟨h1, h2, i64_small 0 (by decide), (ExIn.leaf (A := fun _ => False) (k := 0) (n := 0) (d := 0) (u := 0) (i64_small _ (by decide)) (by unfold Is64; decide) (i64_small _ (by decide))).here⟩
theorem LfIn.up {w : World} {h h' : Nat} {l : Lf} (hh : h ≤ h') (hx : LfIn w h l) : LfIn w h' l := ⟨hx.1, hx.2.1, hx.2.2.1, ExIn.mono h h' hh hx.2.2.2⟩
theorem cdin_up : ∀ (h h' : Nat) {w : World} {e : Cd}, h ≤ h' → CdIn w h e → CdIn w h' e
  | 0, _, _, _, _, hx => hx.elim
  | h + 1, 0, _, _, hh, _ => absurd hh (by omega)
  | h + 1, h' + 1, w, .mk k oa b o cap l lf, hh, hx => by
    obtain ⟨h1, h2, h4, h5, h6, h7, h8⟩ := hx
    exact ⟨h1, h2.up (by omega), h4, h5, h6, h7, fun i x hi => ⟨(h8 i x hi).1, cdin_up h h' (by omega) (h8 i x hi).2⟩⟩
theorem CdIn.made {A : Nat → Prop} {w : World} {h : Nat} {k : Int} {L : Int × Int × List UInt8} {oa : Option Addr} {b cap : Nat} {l : List Cd} (hk : I64 k) (h1 : I64 L.1) (h2 : I64 L.2.1) (hl : l.length * 8 ≤ 140737488355328) (hs : Sl w oa l.length cap b 0 14 (l.flatMap ccells)) (hA : 0 < l.length → ¬ A b)
    (he : Safe A w fun w => ∀ x ∈ l, CdIn w h x) : Safe A w fun w => CdIn w (h + 2) (.mk k oa b 0 cap l (bareL L)) := fun w' g1 g2 => by
  have hs' := (hs.safe hA) w' g1 g2
  have he' := he w' g1 g2
  refine ⟨hk, (LfIn.bare h1 h2).up (by omega), hs'.le, hs'.max, hl, hs'.lies, fun i x hi => ⟨fun j v hv => ?_, cdin_up h _ (by omega) (he' x (List.mem_of_getElem? hi))⟩⟩
  have := hs'.cell _ _ (flat_at ccells_length l i x j v hi hv)
  rw [show 0 + i * 14 + j = 0 + (i * 14 + j) by omega]
  exact this

/-- the condition Q is the value v; it lies clear of A -/
def isQd (A : Nat → Prop) (Q : Qt) (v : Value) (w : World) : Prop := ∃ (x : Cd) (h : Nat), v = cv x ∧ x.q = Q ∧ x.bare ∧ Safe A w fun w => CdIn w h x
theorem isQd.anti {A A' : Nat → Prop} {Q : Qt} {v : Value} {w : World} (h : isQd A Q v w) (hA : ∀ b, A' b → A b ∨ w.heap.size ≤ b) : isQd A' Q v w := by
  obtain ⟨x, hh, hv, hc, hp, hs⟩ := h
  exact ⟨x, hh, hv, hc, hp, hs.wide hA⟩
theorem isQd.grown {A : Nat → Prop} {Q : Qt} {v : Value} {w w' : World} {row : Option Nat} (h : isQd A Q v w) (hg : w.grownBy w' row) (hr : ∀ k, row = some k → k < w.heap.size → A k) : isQd A Q v w' := by
  obtain ⟨x, hh, hv, hc, hp, hs⟩ := h
  exact ⟨x, hh, hv, hc, hp, hs.grown hg hr⟩
theorem isQd.below {A : Nat → Prop} {Q : Qt} {v : Value} {w w' : World} (h : isQd A Q v w) (hb : Below w.heap.size w w') : isQd A Q v w' := h.grown (grownBy_of_below hb none) (fun _ e => by cases e)
/-- the cells of such a value -/
theorem isQd.cells {A : Nat → Prop} {Q : Qt} {v : Value} {w : World} (h : isQd A Q v w) : ∃ (k : Int) (oa : Option Addr) (n cap : Nat) (L : Int × Int × List UInt8), v = .agg (qcells k (.slice oa n cap) L).toArray := by
  obtain ⟨⟨k, oa, b, o, cap, kids, lf⟩, hh, rfl, hc, hp, hs⟩ := h
  rw [Cd.bare_mk] at hp
  refine ⟨k, oa, kids.length, cap, lf.q, ?_⟩
  unfold cv
  rw [Lf.of_bare hp.1]
  rfl
theorem leaf_qd (A : Nat → Prop) (w : World) {L : Int × Int × List UInt8} (h1 : I64 L.1) (h2 : I64 L.2.1) : isQd A (leafQ L) (.agg (qcells 4 (.slice none 0 0) L).toArray) w :=
  ⟨.mk 4 none 0 0 0 [] (bareL L), 2, rfl, by rw [Cd.q_mk]; rfl, by rw [Cd.bare_mk]; exact ⟨⟨rfl, rfl, rfl, rfl, rfl⟩, fun x hx => by cases hx⟩,
    CdIn.made (h := 0) (by unfold I64; decide) h1 h2 (by simp) ⟨rfl, Nat.le_refl _, Nat.zero_le _, fun h => absurd h (by simp), fun j v h => by simp at h⟩ (fun h => absurd h (by simp)) (fun _ _ _ x hx => by cases hx)⟩

end Go.Proofs.Ytgjhaanpkfheeaa

namespace Go.Proofs.Ytgjhaanpkfheeaa
set_option linter.unusedVariables false
set_option linter.unusedSimpArgs false
open Go.RowKit

/-- a row that is one block -/
theorem owns_fresh {w : World} {base g n size : Nat} {e : TypeId} {cs : Array Value} (h : Blk w g e cs) (hb : base ≤ g) (hs : cs.size = n * size) (hn : n ≤ maxLen) : w.ownsRow base e size (.slice (some ⟨g, 0, none⟩) n n) n cs.toList :=
  ⟨by simpa using hs, Or.inr ⟨g, n, cs, rfl, hb, h, Nat.le_refl _, hn, hs, by rw [List.take_of_length_le (by simp [hs])]⟩⟩

end Go.Proofs.Ytgjhaanpkfheeaa

namespace Go.Proofs.Ytgjhaanpkfheeaa
set_option linter.unusedVariables false
set_option linter.unusedSimpArgs false
open Go.RowKit

theorem elCond : El 42 49 (.agg #[.int .i64 0, .slice none 0 0, .int .i64 0, .int .i64 0, .string ⟨#[]⟩, .int .i64 0, .int .i64 0, .int .i64 0, .int .i64 0, .int .i64 0, .slice none 0 0, .string ⟨#[]⟩, .string ⟨#[]⟩, .bool false]) 14 168 := ⟨Try.underlying42, by kernel_rfl, rfl, by decide⟩

def zero14 : Array Value := #[.int .i64 0, .slice none 0 0, .int .i64 0, .int .i64 0, .string ⟨#[]⟩, .int .i64 0, .int .i64 0, .int .i64 0, .int .i64 0, .int .i64 0, .slice none 0 0, .string ⟨#[]⟩, .string ⟨#[]⟩, .bool false]
theorem blk_puts {g : Nat} {t : TypeId} : ∀ (vs post : List Value) (w : World) (o : Nat) (pre : List Value), Blk w g t (pre ++ post).toArray → pre.length = o → post.length = vs.length → Blk (puts w g o vs) g t (pre ++ vs).toArray
  | [], post, w, o, pre, h, _, hl => by
    obtain rfl := List.eq_nil_of_length_eq_zero hl
    exact h
  | v :: vs, [], _, _, _, _, _, hl => by simp at hl
  | v :: vs, p :: post, w, o, pre, h, hp, hl => by
    have h1 := h.put o v
    have e : ((pre ++ p :: post).toArray.setIfInBounds o v) = ((pre ++ [v]) ++ post).toArray := by
      rw [List.setIfInBounds_toArray, List.set_append, if_neg (by omega), hp, Nat.sub_self, List.set_cons_zero, List.append_assoc]
      rfl
    rw [e] at h1
    have h2 := blk_puts vs post _ (o + 1) (pre ++ [v]) h1 (by simp [hp]) (by simpa using hl)
    rw [List.append_assoc] at h2
    exact h2

theorem below_put14 (cs : List Value) (w : World) (g o : Nat) : Below g w (puts w g o cs) := by
  have h := grownBy_puts cs w g o
  exact ⟨h.os, h.tape, h.output, h.size, fun b hb => by
    by_cases h2 : b < w.heap.size
    · exact h.block b h2 (fun e => by have := Option.some.inj e; omega)
    · rw [Array.getElem?_eq_none (by rw [puts_size]; omega), Array.getElem?_eq_none (by omega)]⟩
/-- conditions in a row of its own are the kids of one -/
theorem row_qd {B : Nat} {w : World} {k : Int} {v : Value} {D : List Cd} (hk : I64 k) (ho : w.ownsRow B 49 14 v D.length (D.flatMap ccells)) (hl : D.length * 8 ≤ 140737488355328) (hb : ∀ x ∈ D, x.bare)
    (hs : ∃ hh, Safe (· < B) w fun w => ∀ x ∈ D, CdIn w hh x) : isQd (· < B) (.mk k (D.map Cd.q) zeroQ) (.agg (qcells k v zeroQ).toArray) w := by
  obtain ⟨hh, hs⟩ := hs
  obtain ⟨voa, vcap, vg, rfl, hsl, hpos⟩ := sl_of_own ho
  refine ⟨.mk k voa vg 0 vcap D (bareL zeroQ), hh + 2, ?_, by rw [Cd.q_mk]; rfl, (Cd.bare_mk ..).2 ⟨⟨rfl, rfl, rfl, rfl, rfl⟩, hb⟩, CdIn.made hk (by unfold I64 zeroQ; decide) (by unfold I64 zeroQ; decide) hl hsl (fun h => by have := hpos h; omega) hs⟩
  unfold cv
  rw [ccells_bare]

/-- conditions that are joined: in the variable 'out' of a block go -/
structure Jn (B : Nat) (w0 w : World) (go : Nat) (k : Int) (v : Value) (D : List Cd) : Prop where
  bl : Below B w0 w
  box : Blk w go 49 (qcells k v zeroQ).toArray
  row : w.ownsRow B 49 14 v D.length (D.flatMap ccells)
  apart : ∀ b, v.ownBlock = some b → b ≠ go
  hgo : B ≤ go
  bare : ∀ x ∈ D, x.bare
  safe : ∃ hh, Safe (fun b => b < B ∨ b = go ∨ v.ownBlock = some b) w fun w => ∀ x ∈ D, CdIn w hh x

theorem Jn.below {B : Nat} {w0 w w' : World} {go : Nat} {k : Int} {v : Value} {D : List Cd} (h : Jn B w0 w go k v D) (hs : B ≤ w0.heap.size) (hb : Below w.heap.size w w') : Jn B w0 w' go k v D := by
  obtain ⟨hh, hS⟩ := h.safe
  exact ⟨h.bl.trans (hb.mono (by have := h.bl.size; omega)), h.box.below hb h.box.lt, owns_belowW h.row hb, h.apart, h.hgo, h.bare, hh, hS.below hb⟩
theorem Jn.start {B : Nat} {w0 w : World} {go gr hh : Nat} {k : Int} {x : Cd} (hb : Below B w0 w) (box : Blk w go 49 (qcells k (.slice (some ⟨gr, 0, none⟩) 1 1) zeroQ).toArray) (hrow : Blk w gr 49 (ccells x).toArray) (hg : B ≤ go) (hgr : B ≤ gr) (hne : gr ≠ go) (hx : x.bare)
    (hs : Safe (fun b => b < B ∨ b = go ∨ b = gr) w fun w => CdIn w hh x) : Jn B w0 w go k (.slice (some ⟨gr, 0, none⟩) 1 1) [x] := by
  refine ⟨hb, box, ?_, fun b e => ?_, hg, fun y hy => ?_, hh, ?_⟩
  · have := owns_fresh (n := 1) (size := 14) hrow hgr (by simp [ccells_length]) (by decide)
    simpa using this
  · have e : gr = b := Option.some.inj e
    omega
  · obtain rfl := List.mem_singleton.1 hy
    exact hx
  · refine Safe.mono (φ := fun w => CdIn w hh x) (hs.anti fun b hb' _ => ?_) fun w' hw y hy => ?_
    · rcases hb' with h | h | h
      · exact Or.inl h
      · exact Or.inr (Or.inl h)
      · exact Or.inr (Or.inr (Option.some.inj h).symm)
    · obtain rfl := List.mem_singleton.1 hy
      exact hw
theorem Jn.kind {B : Nat} {w0 w : World} {go : Nat} {k : Int} {v : Value} {D : List Cd} (h : Jn B w0 w go k v D) (k2 : Int) : Jn B w0 (w.setCell ⟨go, 0, none⟩ (.int .i64 k2)) go k2 v D := by
  obtain ⟨hh, hS⟩ := h.safe
  refine ⟨h.bl.setCell (p := ⟨go, 0, none⟩) h.hgo _, ?_, h.row.kept (grownBy_set w ⟨go, 0, none⟩ _) (.inr fun e => h.apart go e rfl), h.apart, h.hgo, h.bare, hh, hS.set (p := ⟨go, 0, none⟩) (Or.inr (Or.inl rfl)) _⟩
  have := h.box.put 0 (.int .i64 k2)
  simpa [qcells] using this
/-- a part is put behind the others -/
theorem Jn.add {B B3 : Nat} {w0 w w9 : World} {go gg cap3 h2 : Nat} {k : Int} {v : Value} {D : List Cd} {x2 : Cd} {cs : List Value} (hJ : Jn B w0 w go k v D) (hs : B ≤ w0.heap.size) (hg3 : go < B3) (hB3 : B3 ≤ w.heap.size) (hv3 : ∀ b, v.ownBlock = some b → b < B3)
    (hb2 : x2.bare) (hx : Safe (· < B3) w fun w => CdIn w h2 x2)
    (ho : w9.ownsRow B 49 14 (.slice (some ⟨gg, 0, none⟩) (D.length + 1) cap3) (D.length + 1) (D.flatMap ccells ++ cs)) (hcs : ccells x2 = cs)
    (hG : w.grownBy w9 v.ownBlock) (hat : v.ownBlock = some gg ∨ w.heap.size ≤ gg) :
    Jn B w0 (w9.setCell ⟨go, 1, none⟩ (.slice (some ⟨gg, 0, none⟩) (D.length + 1) cap3)) go k (.slice (some ⟨gg, 0, none⟩) (D.length + 1) cap3) (D ++ [x2]) := by
  have hP := grownBy_set w9 ⟨go, 1, none⟩ (.slice (some ⟨gg, 0, none⟩) (D.length + 1) cap3)
  have hww : B ≤ w.heap.size := by have := hJ.bl.size; omega
  have hggc : gg ≠ go := by
    rcases hat with h | h
    · exact hJ.apart gg h
    · have := hJ.box.lt
      omega
  have b9 : Blk w9 go _ _ := (hG.block go hJ.box.lt (fun e => hJ.apart go e.symm rfl)).trans hJ.box
  have hrow := hJ.row.lt
  refine ⟨?_, ?_, ?_, fun b e => ?_, hJ.hgo, fun y hy => ?_, ?_⟩
  · have h1 : Below B w0 w9 := ⟨hG.os.trans hJ.bl.os, hG.tape.trans hJ.bl.tape, hG.output.trans hJ.bl.output, Nat.le_trans hJ.bl.size hG.size, fun j hj => (hG.block j (by omega) (fun e => by have := (hrow j e.symm).1; omega)).trans (hJ.bl.block j hj)⟩
    exact h1.setCell (p := ⟨go, 1, none⟩) hJ.hgo _
  · have := b9.put 1 (.slice (some ⟨gg, 0, none⟩) (D.length + 1) cap3)
    simpa [qcells] using this
  · rw [List.length_append, List.flatMap_append, List.flatMap_singleton, hcs]
    exact ho.kept hP (.inr fun e => hggc (Option.some.inj e))
  · have e : gg = b := Option.some.inj e
    subst e
    exact hggc
  · rcases List.mem_append.1 hy with h | h
    · exact hJ.bare y h
    · obtain rfl := List.mem_singleton.1 h
      exact hb2
  · obtain ⟨hh, hS⟩ := hJ.safe
    refine ⟨max hh h2, ?_⟩
    have hA : ∀ b, (b < B ∨ b = go ∨ (Value.slice (some ⟨gg, 0, none⟩) (D.length + 1) cap3).ownBlock = some b) → (b < B ∨ b = go ∨ v.ownBlock = some b) ∨ w.heap.size ≤ b := by
      intro b hb
      rcases hb with hb | hb | hb
      · exact Or.inl (Or.inl hb)
      · exact Or.inl (Or.inr (Or.inl hb))
      · have e : gg = b := Option.some.inj hb
        subst e
        rcases hat with h | h
        · exact Or.inl (Or.inr (Or.inr h))
        · exact Or.inr (by omega)
    have s1 := (((hS.wide (A' := fun b => (b < B ∨ b = go ∨ v.ownBlock = some b) ∨ w.heap.size ≤ b) fun b h => h).grown hG (fun k e _ => Or.inl (Or.inr (Or.inr e)))).set (p := ⟨go, 1, none⟩) (Or.inl (Or.inr (Or.inl rfl))) (.slice (some ⟨gg, 0, none⟩) (D.length + 1) cap3)).anti fun b hb _ => hA b hb
    have s2 := (((hx.wide (A' := fun b => b < B3 ∨ w.heap.size ≤ b) fun b h => h).grown hG (fun k e _ => Or.inl (hv3 k e))).set (p := ⟨go, 1, none⟩) (Or.inl hg3) (.slice (some ⟨gg, 0, none⟩) (D.length + 1) cap3)).anti (A' := fun b => b < B ∨ b = go ∨ (Value.slice (some ⟨gg, 0, none⟩) (D.length + 1) cap3).ownBlock = some b) fun b hb _ => by
      rcases hA b hb with (hb | hb | hb) | hb
      · exact Or.inl (by have := hJ.hgo; omega)
      · exact Or.inl (by omega)
      · exact Or.inl (hv3 b hb)
      · exact Or.inr hb
    refine Safe.mono (ψ := fun w => ∀ y ∈ D ++ [x2], CdIn w (max hh h2) y) (s1.and s2) fun w' hw y hy => ?_
    rcases List.mem_append.1 hy with h | h
    · exact cdin_up _ _ (Nat.le_max_left _ _) (hw.1 y h)
    · obtain rfl := List.mem_singleton.1 h
      exact cdin_up _ _ (Nat.le_max_right _ _) hw.2
theorem Jn.done {B : Nat} {w0 w : World} {go : Nat} {k : Int} {v : Value} {D : List Cd} (h : Jn B w0 w go k v D) (hk : I64 k) (hl : D.length * 8 ≤ 140737488355328) : isQd (· < B) (.mk k (D.map Cd.q) zeroQ) (.agg (qcells k v zeroQ).toArray) w := by
  obtain ⟨hh, hS⟩ := h.safe
  exact row_qd hk h.row hl h.bare ⟨hh, hS.anti fun b hb _ => Or.inl hb⟩

end Go.Proofs.Ytgjhaanpkfheeaa

namespace Go.Proofs.Ytgjhaanpkfheeaa
set_option linter.unusedVariables false
set_option linter.unusedSimpArgs false
open Go.RowKit

set_option maxRecDepth 20000 in
set_option maxHeartbeats 4000000 in
theorem small15_any (m : List UInt8) (w : World) (hm : m.length ≤ 9223372036854775807) :
    Calls Try.prog 133 #[.string ⟨m.toArray⟩] w fun e w' => e = .returned (.string ⟨(lowS m).toArray⟩) ∧ Below w.heap.size w w' := by
  obtain ⟨cap, w1, hrun, hb1, hbl⟩ := bytes_made m w
  obtain ⟨N, hN⟩ : ∃ N, m.length = N := ⟨_, rfl⟩
  rw [hN] at hrun hm
  have HN := Lib.hid hN
  obtain ⟨g, hg⟩ : ∃ g, w.heap.size = g := ⟨_, rfl⟩
  rw [hg] at hrun hb1 hbl ⊢
  have HB0 := Lib.hid hb1
  have HBL := Lib.hid hbl
  clear hN hb1 hbl hg
  go_enter Try.func133, Try.ntmps133
  go_wp2_with fail
  go_loopg [10] N (fun q s10 wr => ∃ (i : Nat), s10 = .int .i64 i ∧ Hid (Below g w wr) ∧ Hid (Bl wr g (lowG m i)) ∧ i ≤ N ∧ N - i ≤ q)
  case atStart => exact ⟨0, rfl, HB0, HBL, Nat.zero_le _, by omega⟩
  case round =>
    clear HB0 HBL hrun
    obtain ⟨i, rfl, hb, hbl, hiN, hq⟩ := hrel
    by_cases hi : i < N
    · have gi : decide ((i : Int) < (N : Int)) = true := by simpa using hi
      have gin : decide (i < N) = true := by simpa using hi
      have him : i < m.length := by rw [HN.out]; exact hi
      have hcell := hbl.out.cell i _ (lowG_at him)
      have hfree := hbl.out.free i (by rw [lowG_len]; exact him)
      have hlt := hbl.out.lt
      have hst := lowG_step him
      obtain ⟨c, hc⟩ : ∃ c, m[i] = c := ⟨_, rfl⟩
      rw [hc] at hcell hst
      have hc256 := UInt8.toNat_lt c
      have hset := hbl.out.set (i := i) (by rw [lowG_len]; exact him) (lowB c)
      rw [← hst] at hset
      by_cases hup : 65 ≤ c.toNat ∧ c.toNat ≤ 90
      · rw [lowB_up hup] at hset
        obtain ⟨n, hn⟩ : ∃ n, c.toNat = n := ⟨_, rfl⟩
        rw [hn] at hcell hset hup hc256
        have g1 : decide ((65 : Int) ≤ (n : Int)) = true := by simp; omega
        have e97 : (n : Int) + 97 - 65 = (n : Int) + 32 := by omega
        have g2 : decide ((n : Int) ≤ (90 : Int)) = true := by simp; omega
        have HS := Lib.hid hset
        clear hset hst hc hn hbl
        go_wp2_with fail
        go_roundg (N - (i + 1))
        case measure => omega
        case rel => exact ⟨i + 1, by go_num, Lib.hid (hb.out.setCell (by simp) _), Lib.hid (by have := HS.out; simpa using this), hi, Nat.le_refl _⟩
      · have hsame : lowG m (i + 1) = lowG m i := by
          rw [hst, lowB_same hup]
          refine List.ext_getElem? fun j => ?_
          by_cases hj : i = j
          · subst hj
            rw [List.getElem?_set_self (by rw [lowG_len]; exact him), lowG_at him, hc]
          · rw [List.getElem?_set_ne hj]
        obtain ⟨n, hn⟩ : ∃ n, c.toNat = n := ⟨_, rfl⟩
        rw [hn] at hcell hup hc256
        have ways : decide ((65 : Int) ≤ (n : Int)) = false ∨ decide ((65 : Int) ≤ (n : Int)) = true ∧ decide ((n : Int) ≤ (90 : Int)) = false := by
          by_cases h : 65 ≤ n
          · exact Or.inr ⟨by simp; omega, by simp; omega⟩
          · exact Or.inl (by simp; omega)
        have HBL2 := Lib.hid (show Bl wr g (lowG m (i + 1)) by rw [hsame]; exact hbl.out)
        clear hset hst hc hn hbl hsame
        rcases ways with g1 | ⟨g1, g2⟩
        all_goals
          go_wp2_with fail
          go_roundg (N - (i + 1))
          case measure => omega
          case rel => exact ⟨i + 1, by go_num, hb, HBL2, hi, Nat.le_refl _⟩
    · obtain rfl : i = N := by omega
      have gi : decide ((i : Int) < (i : Int)) = false := by simp
      have gin : decide (i < i) = false := by simp
      have htx := hbl.out.text cap
      rw [lowG_len, HN.out] at htx
      have hall : lowG m i = lowS m := by rw [← HN.out, lowG_all]
      rw [hall] at htx
      clear hbl hall
      go_wp2_with fail
      go_ret
      exact ⟨rfl, hb.out⟩


def wordAt (l : List Vt) (i : Nat) : List UInt8 := (l[i]?.map wordV).getD []
theorem tk_of_in {w : World} {h : Nat} {t : Tk} {oa : Option Addr} {b o cap : Nat} {kids : List Vl} (hx : VlIn w h (.mk t oa b o cap kids)) : Tk64 t := by
  obtain _ | h := h
  · exact hx.elim
  · exact hx.1

set_option maxHeartbeats 2000000 in
theorem word15_any (h : Nat) (l : List Vl) (oa : Option Addr) (cap b o i : Nat) (w : World) (hs : VsIn w h oa cap b o l) (hi : i ≤ 4611686018427387904) :
    Calls Try.prog 125 #[.slice oa l.length cap, .int .i64 (i : Int)] w fun e w' => e = .returned (.string ⟨(wordAt (l.map Vl.c) i).toArray⟩) ∧ Below w.heap.size w w' := by
  have hcl := hs.sl.le
  have hcm := hs.sl.max
  unfold maxLen at hcm
  by_cases h1 : i < l.length
  · have gj : decide ((l.length : Int) ≤ (i : Int)) = false := by simp; omega
    have gjn : decide (l.length ≤ i) = false := by simp; omega
    have hil : i < l.length := h1
    have hli : l[i]? = some l[i] := List.getElem?_eq_getElem hil
    obtain ⟨rfl, hbl⟩ := hs.sl.lies (by omega)
    obtain ⟨x, hx⟩ : ∃ x, l[i] = x := ⟨_, rfl⟩
    rw [hx] at hli
    have hxc : wordAt (l.map Vl.c) i = wordV x.c := by
      unfold wordAt
      rw [List.getElem?_map, hli]
      rfl
    have h64 := (hs.each i x hli)
    obtain ⟨t, koa, kb, ko, kcap, kids⟩ := x
    have f0 := hs.cell hli (j := 0) rfl
    have f1 := hs.cell hli (j := 1) rfl
    rw [Nat.add_zero] at f0
    obtain ⟨tk, tt, ⟨tn, td⟩, ti, tid⟩ := t

    obtain ⟨N, hN⟩ : ∃ N, l.length = N := ⟨_, rfl⟩
    have htl : tt.length ≤ 9223372036854775807 := (tk_of_in h64).2.2
    rw [hN] at gj gjn hcl h1 ⊢
    rw [hxc]
    by_cases hk : tk = 1
    · have hw : wordV (Vl.mk ⟨tk, tt, (tn, td), ti, tid⟩ koa kb ko kcap kids).c = lowS tt := by
        rw [Vl.c_mk]
        show (if tk = 1 then lowS tt else []) = lowS tt
        rw [if_pos hk]
      rw [hw]
      subst hk
      have HSM := Lib.hid (fun w => small15_any tt w htl)
      clear hs hli hx hxc h64 hN htl hw
      go_enter Try.func125, Try.ntmps125
      go_wp2_with fail
      ((with_reducible refine (HSM.out _).mono ?_); rintro e w2 ⟨rfl, hb2⟩)
      have HB2 := Lib.hid hb2
      clear hb2
      go_wp2_with fail
      go_ret
      exact ⟨rfl, HB2.out⟩
    · have hw : wordV (Vl.mk ⟨tk, tt, (tn, td), ti, tid⟩ koa kb ko kcap kids).c = [] := by
        rw [Vl.c_mk]
        show (if tk = 1 then lowS tt else []) = []
        rw [if_neg hk]
      rw [hw]
      have gk : (tk != (1 : Int)) = true := by simpa using hk
      clear hs hli hx hxc h64 hN htl hw hk
      go_enter Try.func125, Try.ntmps125
      go_wp2_with fail
      go_ret
      exact ⟨rfl, Below.refl _ _⟩
  · have gj : decide ((l.length : Int) ≤ (i : Int)) = true := by simp; omega
    have gjn : decide (l.length ≤ i) = true := by simp; omega
    have hw : wordAt (l.map Vl.c) i = [] := by
      unfold wordAt
      rw [List.getElem?_eq_none (by rw [List.length_map]; omega)]
      rfl
    rw [hw]
    generalize l.length = N at *
    clear hs hw
    go_enter Try.func125, Try.ntmps125
    go_wp2_with fail
    go_ret
    exact ⟨rfl, Below.refl _ _⟩

end Go.Proofs.Ytgjhaanpkfheeaa
